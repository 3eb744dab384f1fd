/- ApplyMade: a part -/
import Derived.Test.YtahidkjncljkaaaProg
import Derived.Below
import Derived.Deep.Draws
import Derived.Deep.AppendLies
import Derived.Maps.AppendAt
import Derived.OwnWalk
import Derived.Laws.BytesArg
import Derived.Laws.MakeOwn
import Derived.Laws.OwnMore
import Derived.Deep.OwnRows
import Derived.Tactics
import Derived.Lib.ConvBytes
import Derived.Laws.Slices
import Derived.WalkKit
import Derived.KernelRfl
import Derived.RowKit3
import Derived.Deep.LoopGhost
import Derived.Deep.QuietTactic
import Derived.BigQuiet
import Derived.WideLaws
import Derived.Deep.DeepCutAuto
import Derived.Deep.CutBlock
import Derived.Deep.RegionHeld3
import Derived.Laws.Rows
import Derived.Lib.AppendStr
import Derived.ArgAppend
import Derived.Laws.IdiomCopy
import Derived.OrdersHeld
import Derived.Laws.BitsLemmas
import Derived.RowKit
import Derived.Laws.Cover1
import Derived.WalkSpells
import Derived.Shelf.Abstract
import Derived.Lib.SliceRun
import Derived.Lib.JoinLaws
import Derived.Lib.AppendZerosOnto
import Derived.Lib.Overlaps
import Derived.Laws.Externs
import Derived.Laws.NewBlocks
import Derived.Deep.RegionLaw
import Derived.Shelf.RegionOpenPlain
import Derived.StillTailTactics
import Derived.Test.YtahidkjncljkaaaBApplyMade0
set_option linter.unusedVariables false
set_option linter.unusedSimpArgs false
namespace Go.Proofs.Ytahidkjncljkaaa.Print
open Go.RowKit Go.Proofs.YtahidkjncljkaaaW.PrintWords Go.Proofs.YtahidkjncljkaaaW.PrintLast Go.Proofs.YtahidkjncljkaaaW.PrintMore
attribute [local go_sem] max2_int min2_int max_two min_two max_three min_three max_four min_four



def errW:Option Int→Value
 |none=> .nilIface
 |some c=> .iface 0 (.int .i64 c)
theorem errW_none:errW none= .nilIface:=rfl
theorem errW_some (c:Int):errW (some c)= .iface 0 (.int .i64 c):=rfl

theorem info9:(Try.prog.info? 9).map (fun i=>(i.zero,i.size,i.bytes))=some (some (.string ⟨#[]⟩),1,16):=by kernel_rfl
theorem info76:(Try.prog.info? 76).map (fun i=>(i.zero,i.size,i.bytes))=some (some (.agg #[(.int .i64 0),(.string ⟨#[]⟩),(.string ⟨#[]⟩),(.int .i64 0),(.int .i64 0),(.int .i64 0)]),6,64):=by kernel_rfl
theorem info79:(Try.prog.info? 79).map (fun i=>(i.zero,i.size,i.bytes))=some (some (.agg #[(.string ⟨#[]⟩),(.string ⟨#[]⟩),(.int .i64 0),(.int .i64 0),(.int .i64 0),(.int .i64 0),(.int .i64 0),(.int .i64 0),(.int .i64 0),(.int .i64 0),(.int .i64 0),(.int .i64 0)]),12,112):=by kernel_rfl
theorem info84:(Try.prog.info? 84).map (fun i=>(i.zero,i.size,i.bytes))=some (some (.agg #[(.string ⟨#[]⟩),(.string ⟨#[]⟩),(.int .i64 0),(.int .i64 0),(.int .i64 0),(.int .i64 0)]),6,64):=by kernel_rfl
-- the values' own types
structure S37 where
 f0:Int
 f1:Int
 f2:Int
def z37:S37:=⟨(0:Int),(0:Int),(0:Int)⟩
def k37:Kd S37:=Kd.iso (Kd.pair (Kd.int .i64) (Kd.pair (Kd.int .i64) (Kd.int .i64))) (fun x:S37=>(x.f0,x.f1,x.f2))
theorem k37_open {w:World} {x:S37} {cs:List Value} (h:k37.K w x cs):cs=[.int .i64 x.f0, .int .i64 x.f1, .int .i64 x.f2]:=by
 obtain ⟨_,_,rfl,rfl,⟨_,_,rfl,rfl,rfl⟩⟩:=h;exact rfl
theorem k37_openM {w:World} {base:Nat} {ok:Nat→Prop} {x:S37} {cs:List Value} (h:k37.M w base ok x cs):cs=[.int .i64 x.f0, .int .i64 x.f1, .int .i64 x.f2]:=by
 obtain ⟨_,_,rfl,rfl,⟨_,_,rfl,rfl,rfl⟩⟩:=h;exact rfl
theorem k37_mk (w:World) (x:S37):k37.K w x [.int .i64 x.f0, .int .i64 x.f1, .int .i64 x.f2]:=⟨[.int .i64 x.f0],[.int .i64 x.f1, .int .i64 x.f2],rfl,rfl,⟨[.int .i64 x.f1],[.int .i64 x.f2],rfl,rfl,rfl⟩⟩
theorem k37_mkM (w:World) (base:Nat) (ok:Nat→Prop) (x:S37):k37.M w base ok x [.int .i64 x.f0, .int .i64 x.f1, .int .i64 x.f2]:=⟨[.int .i64 x.f0],[.int .i64 x.f1, .int .i64 x.f2],rfl,rfl,⟨[.int .i64 x.f1],[.int .i64 x.f2],rfl,rfl,rfl⟩⟩
def rd_T37 (xs:List S37) (i:Int):S37:=xs.getD i.toNat z37
theorem at_T37 {w:World} {A:Option Addr} {n:Nat} {xs:List S37} (h:Kd.C k37 w A n xs) (i:Int) (h0:0≤i) (h1:i<n): ∃ad,A=some ad∧w.cell? (ad.add (i.toNat*3))=some (.int .i64 (rd_T37 xs i).f0)∧w.cell? ⟨(ad.add (i.toNat*3)).block,(ad.add (i.toNat*3)).off+1,none⟩=some (.int .i64 (rd_T37 xs i).f1)∧w.cell? ⟨(ad.add (i.toNat*3)).block,(ad.add (i.toNat*3)).off+2,none⟩=some (.int .i64 (rd_T37 xs i).f2):=by
 obtain ⟨ad,c,e,_,hK,hc0⟩:=Kd.C_get h z37 i h0 h1;have hc: ∀j u,c[j]?=some u→w.cell? (ad.add (i.toNat*3+j))=some u:=hc0;obtain rfl:=k37_open hK;exact ⟨ad,e,hc 0 _ rfl,by rw [←add_field _ _ 1 (by omega)];exact hc 1 _ rfl,by rw [←add_field _ _ 2 (by omega)];exact hc 2 _ rfl⟩

structure S39 where
 f0:ByteArray
 f1:ByteArray
 f2:S37
structure S79 where
 f0:ByteArray
 f1:ByteArray
 f2:S37
 f3:S37
 f4:S37
 f5:Int
def z79:S79:=⟨(⟨#[]⟩:ByteArray),(⟨#[]⟩:ByteArray),z37,z37,z37,(0:Int)⟩
def k79:Kd S79:=Kd.iso (Kd.pair Kd.string (Kd.pair Kd.string (Kd.pair k37 (Kd.pair k37 (Kd.pair k37 (Kd.int .i64)))))) (fun x:S79=>(x.f0,x.f1,x.f2,x.f3,x.f4,x.f5))
theorem k79_open {w:World} {x:S79} {cs:List Value} (h:k79.K w x cs):cs=[.string x.f0, .string x.f1, .int .i64 x.f2.f0, .int .i64 x.f2.f1, .int .i64 x.f2.f2, .int .i64 x.f3.f0, .int .i64 x.f3.f1, .int .i64 x.f3.f2, .int .i64 x.f4.f0, .int .i64 x.f4.f1, .int .i64 x.f4.f2, .int .i64 x.f5]:=by
 obtain ⟨_,_,rfl,rfl,⟨_,_,rfl,rfl,⟨_,_,rfl,s2,⟨_,_,rfl,s5,⟨_,_,rfl,s8,rfl⟩⟩⟩⟩⟩:=h;obtain rfl:=k37_open s2;obtain rfl:=k37_open s5;obtain rfl:=k37_open s8;exact rfl
theorem k79_openM {w:World} {base:Nat} {ok:Nat→Prop} {x:S79} {cs:List Value} (h:k79.M w base ok x cs):cs=[.string x.f0, .string x.f1, .int .i64 x.f2.f0, .int .i64 x.f2.f1, .int .i64 x.f2.f2, .int .i64 x.f3.f0, .int .i64 x.f3.f1, .int .i64 x.f3.f2, .int .i64 x.f4.f0, .int .i64 x.f4.f1, .int .i64 x.f4.f2, .int .i64 x.f5]:=by
 obtain ⟨_,_,rfl,rfl,⟨_,_,rfl,rfl,⟨_,_,rfl,s2,⟨_,_,rfl,s5,⟨_,_,rfl,s8,rfl⟩⟩⟩⟩⟩:=h;obtain rfl:=k37_openM s2;obtain rfl:=k37_openM s5;obtain rfl:=k37_openM s8;exact rfl
theorem k79_mkM (w:World) (base:Nat) (ok:Nat→Prop) (x:S79):k79.M w base ok x [.string x.f0, .string x.f1, .int .i64 x.f2.f0, .int .i64 x.f2.f1, .int .i64 x.f2.f2, .int .i64 x.f3.f0, .int .i64 x.f3.f1, .int .i64 x.f3.f2, .int .i64 x.f4.f0, .int .i64 x.f4.f1, .int .i64 x.f4.f2, .int .i64 x.f5]:=⟨[.string x.f0],[.string x.f1, .int .i64 x.f2.f0, .int .i64 x.f2.f1, .int .i64 x.f2.f2, .int .i64 x.f3.f0, .int .i64 x.f3.f1, .int .i64 x.f3.f2, .int .i64 x.f4.f0, .int .i64 x.f4.f1, .int .i64 x.f4.f2, .int .i64 x.f5],rfl,rfl,⟨[.string x.f1],[.int .i64 x.f2.f0, .int .i64 x.f2.f1, .int .i64 x.f2.f2, .int .i64 x.f3.f0, .int .i64 x.f3.f1, .int .i64 x.f3.f2, .int .i64 x.f4.f0, .int .i64 x.f4.f1, .int .i64 x.f4.f2, .int .i64 x.f5],rfl,rfl,⟨[.int .i64 x.f2.f0, .int .i64 x.f2.f1, .int .i64 x.f2.f2],[.int .i64 x.f3.f0, .int .i64 x.f3.f1, .int .i64 x.f3.f2, .int .i64 x.f4.f0, .int .i64 x.f4.f1, .int .i64 x.f4.f2, .int .i64 x.f5],rfl,(k37_mkM w base ok x.f2),⟨[.int .i64 x.f3.f0, .int .i64 x.f3.f1, .int .i64 x.f3.f2],[.int .i64 x.f4.f0, .int .i64 x.f4.f1, .int .i64 x.f4.f2, .int .i64 x.f5],rfl,(k37_mkM w base ok x.f3),⟨[.int .i64 x.f4.f0, .int .i64 x.f4.f1, .int .i64 x.f4.f2],[.int .i64 x.f5],rfl,(k37_mkM w base ok x.f4),rfl⟩⟩⟩⟩⟩
def rd_T79 (xs:List S79) (i:Int):S79:=xs.getD i.toNat z79
theorem at_T79 {w:World} {A:Option Addr} {n:Nat} {xs:List S79} (h:Kd.C k79 w A n xs) (i:Int) (h0:0≤i) (h1:i<n): ∃ad,A=some ad∧w.cell? (ad.add (i.toNat*12))=some (.string (rd_T79 xs i).f0)∧w.cell? ⟨(ad.add (i.toNat*12)).block,(ad.add (i.toNat*12)).off+1,none⟩=some (.string (rd_T79 xs i).f1)∧w.cell? ⟨(ad.add (i.toNat*12)).block,(ad.add (i.toNat*12)).off+2,none⟩=some (.int .i64 (rd_T79 xs i).f2.f0)∧w.cell? ⟨(ad.add (i.toNat*12)).block,(ad.add (i.toNat*12)).off+3,none⟩=some (.int .i64 (rd_T79 xs i).f2.f1)∧w.cell? ⟨(ad.add (i.toNat*12)).block,(ad.add (i.toNat*12)).off+4,none⟩=some (.int .i64 (rd_T79 xs i).f2.f2)∧w.cell? ⟨(ad.add (i.toNat*12)).block,(ad.add (i.toNat*12)).off+5,none⟩=some (.int .i64 (rd_T79 xs i).f3.f0)∧w.cell? ⟨(ad.add (i.toNat*12)).block,(ad.add (i.toNat*12)).off+6,none⟩=some (.int .i64 (rd_T79 xs i).f3.f1)∧w.cell? ⟨(ad.add (i.toNat*12)).block,(ad.add (i.toNat*12)).off+7,none⟩=some (.int .i64 (rd_T79 xs i).f3.f2)∧w.cell? ⟨(ad.add (i.toNat*12)).block,(ad.add (i.toNat*12)).off+8,none⟩=some (.int .i64 (rd_T79 xs i).f4.f0)∧w.cell? ⟨(ad.add (i.toNat*12)).block,(ad.add (i.toNat*12)).off+9,none⟩=some (.int .i64 (rd_T79 xs i).f4.f1)∧w.cell? ⟨(ad.add (i.toNat*12)).block,(ad.add (i.toNat*12)).off+10,none⟩=some (.int .i64 (rd_T79 xs i).f4.f2)∧w.cell? ⟨(ad.add (i.toNat*12)).block,(ad.add (i.toNat*12)).off+11,none⟩=some (.int .i64 (rd_T79 xs i).f5):=by
 obtain ⟨ad,c,e,_,hK,hc0⟩:=Kd.C_get h z79 i h0 h1;have hc: ∀j u,c[j]?=some u→w.cell? (ad.add (i.toNat*12+j))=some u:=hc0;obtain rfl:=k79_open hK;exact ⟨ad,e,hc 0 _ rfl,by rw [←add_field _ _ 1 (by omega)];exact hc 1 _ rfl,by rw [←add_field _ _ 2 (by omega)];exact hc 2 _ rfl,by rw [←add_field _ _ 3 (by omega)];exact hc 3 _ rfl,by rw [←add_field _ _ 4 (by omega)];exact hc 4 _ rfl,by rw [←add_field _ _ 5 (by omega)];exact hc 5 _ rfl,by rw [←add_field _ _ 6 (by omega)];exact hc 6 _ rfl,by rw [←add_field _ _ 7 (by omega)];exact hc 7 _ rfl,by rw [←add_field _ _ 8 (by omega)];exact hc 8 _ rfl,by rw [←add_field _ _ 9 (by omega)];exact hc 9 _ rfl,by rw [←add_field _ _ 10 (by omega)];exact hc 10 _ rfl,by rw [←add_field _ _ 11 (by omega)];exact hc 11 _ rfl⟩

structure S84 where
 f0:ByteArray
 f1:ByteArray
 f2:S37
 f3:Int
def z84:S84:=⟨(⟨#[]⟩:ByteArray),(⟨#[]⟩:ByteArray),z37,(0:Int)⟩
def k84:Kd S84:=Kd.iso (Kd.pair Kd.string (Kd.pair Kd.string (Kd.pair k37 (Kd.int .i64)))) (fun x:S84=>(x.f0,x.f1,x.f2,x.f3))
theorem k84_open {w:World} {x:S84} {cs:List Value} (h:k84.K w x cs):cs=[.string x.f0, .string x.f1, .int .i64 x.f2.f0, .int .i64 x.f2.f1, .int .i64 x.f2.f2, .int .i64 x.f3]:=by
 obtain ⟨_,_,rfl,rfl,⟨_,_,rfl,rfl,⟨_,_,rfl,s2,rfl⟩⟩⟩:=h;obtain rfl:=k37_open s2;exact rfl
theorem k84_mkM (w:World) (base:Nat) (ok:Nat→Prop) (x:S84):k84.M w base ok x [.string x.f0, .string x.f1, .int .i64 x.f2.f0, .int .i64 x.f2.f1, .int .i64 x.f2.f2, .int .i64 x.f3]:=⟨[.string x.f0],[.string x.f1, .int .i64 x.f2.f0, .int .i64 x.f2.f1, .int .i64 x.f2.f2, .int .i64 x.f3],rfl,rfl,⟨[.string x.f1],[.int .i64 x.f2.f0, .int .i64 x.f2.f1, .int .i64 x.f2.f2, .int .i64 x.f3],rfl,rfl,⟨[.int .i64 x.f2.f0, .int .i64 x.f2.f1, .int .i64 x.f2.f2],[.int .i64 x.f3],rfl,(k37_mkM w base ok x.f2),rfl⟩⟩⟩
def rd_T84 (xs:List S84) (i:Int):S84:=xs.getD i.toNat z84
theorem at_T84 {w:World} {A:Option Addr} {n:Nat} {xs:List S84} (h:Kd.C k84 w A n xs) (i:Int) (h0:0≤i) (h1:i<n): ∃ad,A=some ad∧w.cell? (ad.add (i.toNat*6))=some (.string (rd_T84 xs i).f0)∧w.cell? ⟨(ad.add (i.toNat*6)).block,(ad.add (i.toNat*6)).off+1,none⟩=some (.string (rd_T84 xs i).f1)∧w.cell? ⟨(ad.add (i.toNat*6)).block,(ad.add (i.toNat*6)).off+2,none⟩=some (.int .i64 (rd_T84 xs i).f2.f0)∧w.cell? ⟨(ad.add (i.toNat*6)).block,(ad.add (i.toNat*6)).off+3,none⟩=some (.int .i64 (rd_T84 xs i).f2.f1)∧w.cell? ⟨(ad.add (i.toNat*6)).block,(ad.add (i.toNat*6)).off+4,none⟩=some (.int .i64 (rd_T84 xs i).f2.f2)∧w.cell? ⟨(ad.add (i.toNat*6)).block,(ad.add (i.toNat*6)).off+5,none⟩=some (.int .i64 (rd_T84 xs i).f3):=by
 obtain ⟨ad,c,e,_,hK,hc0⟩:=Kd.C_get h z84 i h0 h1;have hc: ∀j u,c[j]?=some u→w.cell? (ad.add (i.toNat*6+j))=some u:=hc0;obtain rfl:=k84_open hK;exact ⟨ad,e,hc 0 _ rfl,by rw [←add_field _ _ 1 (by omega)];exact hc 1 _ rfl,by rw [←add_field _ _ 2 (by omega)];exact hc 2 _ rfl,by rw [←add_field _ _ 3 (by omega)];exact hc 3 _ rfl,by rw [←add_field _ _ 4 (by omega)];exact hc 4 _ rfl,by rw [←add_field _ _ 5 (by omega)];exact hc 5 _ rfl⟩

structure S76 where
 f0:Int
 f1:ByteArray
 f2:ByteArray
 f3:S37
def z76:S76:=⟨(0:Int),(⟨#[]⟩:ByteArray),(⟨#[]⟩:ByteArray),z37⟩
def k76:Kd S76:=Kd.iso (Kd.pair (Kd.int .i64) (Kd.pair Kd.string (Kd.pair Kd.string k37))) (fun x:S76=>(x.f0,x.f1,x.f2,x.f3))
theorem k76_open {w:World} {x:S76} {cs:List Value} (h:k76.K w x cs):cs=[.int .i64 x.f0, .string x.f1, .string x.f2, .int .i64 x.f3.f0, .int .i64 x.f3.f1, .int .i64 x.f3.f2]:=by
 obtain ⟨_,_,rfl,rfl,⟨_,_,rfl,rfl,⟨_,_,rfl,rfl,s3⟩⟩⟩:=h;obtain rfl:=k37_open s3;exact rfl
theorem k76_mkM (w:World) (base:Nat) (ok:Nat→Prop) (x:S76):k76.M w base ok x [.int .i64 x.f0, .string x.f1, .string x.f2, .int .i64 x.f3.f0, .int .i64 x.f3.f1, .int .i64 x.f3.f2]:=⟨[.int .i64 x.f0],[.string x.f1, .string x.f2, .int .i64 x.f3.f0, .int .i64 x.f3.f1, .int .i64 x.f3.f2],rfl,rfl,⟨[.string x.f1],[.string x.f2, .int .i64 x.f3.f0, .int .i64 x.f3.f1, .int .i64 x.f3.f2],rfl,rfl,⟨[.string x.f2],[.int .i64 x.f3.f0, .int .i64 x.f3.f1, .int .i64 x.f3.f2],rfl,rfl,(k37_mkM w base ok x.f3)⟩⟩⟩
def rd_T76 (xs:List S76) (i:Int):S76:=xs.getD i.toNat z76
theorem at_T76 {w:World} {A:Option Addr} {n:Nat} {xs:List S76} (h:Kd.C k76 w A n xs) (i:Int) (h0:0≤i) (h1:i<n): ∃ad,A=some ad∧w.cell? (ad.add (i.toNat*6))=some (.int .i64 (rd_T76 xs i).f0)∧w.cell? ⟨(ad.add (i.toNat*6)).block,(ad.add (i.toNat*6)).off+1,none⟩=some (.string (rd_T76 xs i).f1)∧w.cell? ⟨(ad.add (i.toNat*6)).block,(ad.add (i.toNat*6)).off+2,none⟩=some (.string (rd_T76 xs i).f2)∧w.cell? ⟨(ad.add (i.toNat*6)).block,(ad.add (i.toNat*6)).off+3,none⟩=some (.int .i64 (rd_T76 xs i).f3.f0)∧w.cell? ⟨(ad.add (i.toNat*6)).block,(ad.add (i.toNat*6)).off+4,none⟩=some (.int .i64 (rd_T76 xs i).f3.f1)∧w.cell? ⟨(ad.add (i.toNat*6)).block,(ad.add (i.toNat*6)).off+5,none⟩=some (.int .i64 (rd_T76 xs i).f3.f2):=by
 obtain ⟨ad,c,e,_,hK,hc0⟩:=Kd.C_get h z76 i h0 h1;have hc: ∀j u,c[j]?=some u→w.cell? (ad.add (i.toNat*6+j))=some u:=hc0;obtain rfl:=k76_open hK;exact ⟨ad,e,hc 0 _ rfl,by rw [←add_field _ _ 1 (by omega)];exact hc 1 _ rfl,by rw [←add_field _ _ 2 (by omega)];exact hc 2 _ rfl,by rw [←add_field _ _ 3 (by omega)];exact hc 3 _ rfl,by rw [←add_field _ _ 4 (by omega)];exact hc 4 _ rfl,by rw [←add_field _ _ 5 (by omega)];exact hc 5 _ rfl⟩

structure S56 where
 f0:(List S79)
 f1:Int
 f2:Int
structure S141 where
 f0:S39
 f1:S79
 f2:Bool
 f3:S37
theorem eqA37 (d:Nat) (w:World) (x0 y0:Int) (x1 y1:Int) (x2 y2:Int):
  (Op.equalIn (d+2) 37 (.agg #[.int .i64 x0, .int .i64 x1, .int .i64 x2]) (.agg #[.int .i64 y0, .int .i64 y1, .int .i64 y2])).run Try.prog w= .ok (x0==y0 && (x1==y1 && (x2==y2))) w:=by
 refine eqA_of Try.underlying37 (by kernel_rfl) ?_;refine eqf_cons (by rfl) (by go_simp;rfl) (by go_simp;rfl) (by go_simp) ?_;refine eqf_cons (by rfl) (by go_simp;rfl) (by go_simp;rfl) (by go_simp) ?_;exact eqf_last (by rfl) (by go_simp;rfl) (by go_simp;rfl) (by go_simp)
def r10_MayName.f (a0:ByteArray):Option (Bool):=if a0.toList=([]:List UInt8) then (some false) else (some (decide ((a0.size:Int)≤24)))
set_option maxHeartbeats 8000000 in
set_option maxRecDepth 100000 in
theorem r10_MayName.calls (a0:ByteArray) (r:Bool) (w:World) (h:r10_MayName.f a0=some r):
  Calls Try.prog 67 #[.string a0] w fun e w'=>e= .returned (.bool r)∧Drawn0 w w':=by
 have H:(if a0.toList=([]:List UInt8) then (some false) else (some (decide ((a0.size:Int)≤24))))=some r:=h;clear h;by_cases c2:a0.toList=([]:List UInt8)
 ·rw [if_pos c2] at H;have c2b0:=beq_iff_eq.mpr c2;have c2b1:=bne_eq_false_iff_eq.mpr c2;clear c2;obtain rfl:=Option.some.inj H;go_enter Try.func67,Try.ntmps67;go_wp2
  go_ret
  exact ⟨by first|rfl|(simp;done)|(simp [*];done),by repeat (first|exact Drawn0.refl _|apply Drawn0.step)⟩
 rw [if_neg c2] at H;have c2b0:=beq_eq_false_iff_ne.mpr c2;have c2b1:=bne_iff_ne.mpr c2;obtain rfl:=Option.some.inj H;go_enter Try.func67,Try.ntmps67;go_wp2
 go_ret
 exact ⟨by first|rfl|(simp;done)|(simp [*];done),by repeat (first|exact Drawn0.refl _|apply Drawn0.step)⟩

def r10_unit.f (a0:Int):Option (Bool):=if a0≥0 then (some (decide (a0≤1099511627776))) else (some false)
set_option maxHeartbeats 8000000 in
set_option maxRecDepth 100000 in
theorem r10_unit.calls (a0:Int) (r:Bool) (w:World) (h:r10_unit.f a0=some r):
  Calls Try.prog 110 #[.int .i64 a0] w fun e w'=>e= .returned (.bool r)∧Drawn0 w w':=by
 have H:(if a0≥0 then (some (decide (a0≤1099511627776))) else (some false))=some r:=h;clear h;by_cases c2:a0≥0
 ·rw [if_pos c2] at H;have c2b0:decide (0≤a0)=true:=decide_eq_true c2;clear c2;obtain rfl:=Option.some.inj H;go_enter Try.func110,Try.ntmps110;go_wp2
  go_ret
  exact ⟨by first|rfl|(simp;done)|(simp [*];done),by repeat (first|exact Drawn0.refl _|apply Drawn0.step)⟩
 rw [if_neg c2] at H;have c2b0:decide (0≤a0)=false:=decide_eq_false c2;clear c2;obtain rfl:=Option.some.inj H;go_enter Try.func110,Try.ntmps110;go_wp2
 go_ret
 exact ⟨by first|rfl|(simp;done)|(simp [*];done),by repeat (first|exact Drawn0.refl _|apply Drawn0.step)⟩

def r10_MayVec.f (a0_0:Int) (a0_1:Int) (a0_2:Int):Option (Bool):=(r10_unit.f a0_0).bind fun t2=>(if t2=true then ((r10_unit.f a0_1).bind fun t3=>(if t3=true then ((r10_unit.f a0_2).bind fun t4=>(some t4)) else (some false))) else (some false))
set_option maxHeartbeats 8000000 in
set_option maxRecDepth 100000 in
theorem r10_MayVec.calls (a0_0:Int) (a0_1:Int) (a0_2:Int) (r:Bool) (w:World) (h:r10_MayVec.f a0_0 a0_1 a0_2=some r):
  Calls Try.prog 68 #[.agg #[.int .i64 a0_0, .int .i64 a0_1, .int .i64 a0_2]] w fun e w'=>e= .returned (.bool r)∧Below w.heap.size w w':=by
 have hu37:=Try.underlying37;have HB:=am_ (Below.refl w.heap.size w);have H:((r10_unit.f a0_0).bind fun t2=>(if t2=true then ((r10_unit.f a0_1).bind fun t3=>(if t3=true then ((r10_unit.f a0_2).bind fun t4=>(some t4)) else (some false))) else (some false)))=some r:=h;clear h;replace H:=zbd_ H;obtain ⟨t2,A2,H⟩:=H;try dsimp only at H
 by_cases c3:t2=true;subst c3;rw [if_pos rfl] at H;replace H:=zbd_ H;obtain ⟨t3,A4,H⟩:=H;try dsimp only at H
 by_cases c5:t3=true;subst c5;rw [if_pos rfl] at H;replace H:=zbd_ H;obtain ⟨t4,A6,H⟩:=H;try dsimp only at H
 obtain rfl:=Option.some.inj H;rotate_left;replace c5:=Bool.eq_false_iff.mpr c5;subst c5;rw [if_neg (show¬(false=true) by decide)] at H;obtain rfl:=Option.some.inj H;rotate_left;replace c3:=Bool.eq_false_iff.mpr c3;subst c3;rw [if_neg (show¬(false=true) by decide)] at H;obtain rfl:=Option.some.inj H;rotate_left
 all_goals (
 go_enter Try.func68,Try.ntmps68;go_wp2_with (first|((with_reducible refine gate_dst (N:=1) rfl ?_);refine bx_ (N:=1) (cs:=#[.int .i64 a0_0, .int .i64 a0_1, .int .i64 a0_2]) (t:=37) ?_;intro gb1 hg w7 hbox hb;have BK1:=am_ (hbox);have GE1:=am_ ((zg0_ HB hg:w.heap.size≤gb1));replace HB:=am_ (below_step (zl0_ HB) hb);clear hb hbox hg;obtain ⟨_,_,_⟩:=x3_ BK1;obtain ⟨_,_,_⟩:=ff3_ BK1)|((with_reducible refine gate_callee (f:=110) rfl ?_);refine gl_ (some 5) Try.func110 #[.int .i64 a0_0] ?_;(with_reducible refine (r10_unit.calls a0_0 _ _ A2.out).mono ?_);rintro e w' ⟨rfl,⟨nd,rfl⟩⟩;refine ⟨_,rfl, ?_⟩)|(go_at_call 110;(with_reducible refine (r10_unit.calls a0_1 _ _ A4.out).mono ?_);rintro e w' ⟨rfl,⟨nd,rfl⟩⟩)|(go_at_call 110;(with_reducible refine (r10_unit.calls a0_2 t4 _ A6.out).mono ?_);rintro e w' ⟨rfl,⟨nd,rfl⟩⟩))
 go_ret)
 ·exact ⟨er_,zl1_ HB GE1⟩
 ·exact ⟨er_,zl1_ HB GE1⟩
 ·exact ⟨er_,zl1_ HB GE1⟩

def r10_Add.f (a0_0:Int) (a0_1:Int) (a0_2:Int) (a1_0:Int) (a1_1:Int) (a1_2:Int):Option (Int×Int×Int):=some (wrap64 (a0_0+a1_0),wrap64 (a0_1+a1_1),wrap64 (a0_2+a1_2))
set_option maxHeartbeats 8000000 in
set_option maxRecDepth 100000 in
theorem r10_Add.calls (a0_0:Int) (a0_1:Int) (a0_2:Int) (a1_0:Int) (a1_1:Int) (a1_2:Int) (r1:Int) (r2:Int) (r3:Int) (w:World) (h:r10_Add.f a0_0 a0_1 a0_2 a1_0 a1_1 a1_2=some (r1,r2,r3)):
  Calls Try.prog 70 #[.agg #[.int .i64 a0_0, .int .i64 a0_1, .int .i64 a0_2], .agg #[.int .i64 a1_0, .int .i64 a1_1, .int .i64 a1_2]] w fun e w'=>e= .returned (.agg #[.int .i64 r1, .int .i64 r2, .int .i64 r3])∧Below w.heap.size w w':=by
 have hu37:=Try.underlying37;have HB:=am_ (Below.refl w.heap.size w);have H:(some (wrap64 (a0_0+a1_0),wrap64 (a0_1+a1_1),wrap64 (a0_2+a1_2)))=some (r1,r2,r3):=h;clear h;simp only [Option.some.injEq,Prod.mk.injEq] at H;obtain ⟨rfl,rfl,rfl⟩:=H;go_enter Try.func70,Try.ntmps70
 go_wp2_with (first|((with_reducible refine gate_dst (N:=2) rfl ?_);refine bx_ (N:=2) (cs:=#[.int .i64 a0_0, .int .i64 a0_1, .int .i64 a0_2]) (t:=37) ?_;intro gb1 hg w3 hbox hb;have BK1:=am_ (hbox);have GE1:=am_ ((zg0_ HB hg:w.heap.size≤gb1));replace HB:=am_ (below_step (zl0_ HB) hb);clear hb hbox hg)|((with_reducible refine gate_dst (N:=3) rfl ?_);refine bx_ (N:=3) (cs:=#[.int .i64 a1_0, .int .i64 a1_1, .int .i64 a1_2]) (t:=37) ?_;intro gb2 hg w4 hbox hb;have BK2:=am_ (hbox);have GE2:=am_ ((zg1_ HB GE1 hg:w.heap.size≤gb2));replace HB:=am_ (below_step (zl1_ HB GE1) hb);have NB1_2:=am_ ((zn_ BK1 hg:gb1≠gb2));have NB2_1:=am_ ((zm_ BK1 hg:gb2≠gb1));replace BK1:=bb_ BK1 hb;clear hb hbox hg)|((with_reducible refine gate_dst (N:=4) rfl ?_);refine bx_ (N:=4) (cs:=#[.int .i64 0, .int .i64 0, .int .i64 0]) (t:=37) ?_;intro gb3 hg w5 hbox hb;have BK3:=am_ (hbox);have GE3:=am_ ((zg2_ HB GE1 GE2 hg:w.heap.size≤gb3));replace HB:=am_ (below_step (zl2_ HB GE1 GE2) hb);have NB1_3:=am_ ((zn_ BK1 hg:gb1≠gb3));have NB3_1:=am_ ((zm_ BK1 hg:gb3≠gb1));replace BK1:=bb_ BK1 hb;have NB2_3:=am_ ((zn_ BK2 hg:gb2≠gb3));have NB3_2:=am_ ((zm_ BK2 hg:gb3≠gb2));replace BK2:=bb_ BK2 hb;clear hb hbox hg;have:=NB1_2.out;have:=NB2_1.out;have:=NB1_3.out;have:=NB3_1.out;obtain ⟨_,_,_,_,_,_⟩:=y3_ BK1;have:=NB2_3.out;have:=NB3_2.out;obtain ⟨_,_,_,_,_,_⟩:=y3_ BK2;obtain ⟨_,_,_⟩:=x3_ BK3;obtain ⟨_,_,_⟩:=ff3_ BK3))
 refine bodyPost_ret (results_cell_row rfl _ _ gb3 37 #[.int .i64 (wrap64 (a0_0+a1_0)), .int .i64 (wrap64 (a0_1+a1_1)), .int .i64 (wrap64 (a0_2+a1_2))] (0,0) _ rfl (zw_ BK3) Try.underlying37 rfl (by kernel_rfl)) rfl ?_;exact ⟨er_,zl3_ HB GE1 GE2 GE3⟩

def r10_Le.f (a0_0:Int) (a0_1:Int) (a0_2:Int) (a1_0:Int) (a1_1:Int) (a1_2:Int):Option (Bool):=if a0_0≤a1_0 then (if a0_1≤a1_1 then (some (decide (a0_2≤a1_2))) else (some false)) else (some false)
set_option maxHeartbeats 8000000 in
set_option maxRecDepth 100000 in
theorem r10_Le.calls (a0_0:Int) (a0_1:Int) (a0_2:Int) (a1_0:Int) (a1_1:Int) (a1_2:Int) (r:Bool) (w:World) (h:r10_Le.f a0_0 a0_1 a0_2 a1_0 a1_1 a1_2=some r):
  Calls Try.prog 71 #[.agg #[.int .i64 a0_0, .int .i64 a0_1, .int .i64 a0_2], .agg #[.int .i64 a1_0, .int .i64 a1_1, .int .i64 a1_2]] w fun e w'=>e= .returned (.bool r)∧Below w.heap.size w w':=by
 have hu37:=Try.underlying37;have HB:=am_ (Below.refl w.heap.size w);have H:(if a0_0≤a1_0 then (if a0_1≤a1_1 then (some (decide (a0_2≤a1_2))) else (some false)) else (some false))=some r:=h;clear h;by_cases c3:a0_0≤a1_0;rw [if_pos c3] at H;have c3b0:=decide_eq_true c3;clear c3;by_cases c4:a0_1≤a1_1;rw [if_pos c4] at H;have c4b0:=decide_eq_true c4;clear c4;obtain rfl:=Option.some.inj H;rotate_left;rw [if_neg c4] at H;have c4b0:=decide_eq_false c4;clear c4;obtain rfl:=Option.some.inj H;rotate_left;rw [if_neg c3] at H;have c3b0:=decide_eq_false c3;clear c3;obtain rfl:=Option.some.inj H;rotate_left
 all_goals (
 go_enter Try.func71,Try.ntmps71;go_wp2_with (first|((with_reducible refine gate_dst (N:=2) rfl ?_);refine bx_ (N:=2) (cs:=#[.int .i64 a0_0, .int .i64 a0_1, .int .i64 a0_2]) (t:=37) ?_;intro gb1 hg w5 hbox hb;have BK1:=am_ (hbox);have GE1:=am_ ((zg0_ HB hg:w.heap.size≤gb1));replace HB:=am_ (below_step (zl0_ HB) hb);clear hb hbox hg)|((with_reducible refine gate_dst (N:=3) rfl ?_);refine bx_ (N:=3) (cs:=#[.int .i64 a1_0, .int .i64 a1_1, .int .i64 a1_2]) (t:=37) ?_;intro gb2 hg w6 hbox hb;have BK2:=am_ (hbox);have GE2:=am_ ((zg1_ HB GE1 hg:w.heap.size≤gb2));replace HB:=am_ (below_step (zl1_ HB GE1) hb);have NB1_2:=am_ ((zn_ BK1 hg:gb1≠gb2));have NB2_1:=am_ ((zm_ BK1 hg:gb2≠gb1));replace BK1:=bb_ BK1 hb;clear hb hbox hg;have:=NB1_2.out;have:=NB2_1.out;obtain ⟨_,_,_,_,_,_⟩:=y3_ BK1;obtain ⟨_,_,_⟩:=x3_ BK2;obtain ⟨_,_,_⟩:=ff3_ BK2))
 go_ret)
 ·exact ⟨er_,zl2_ HB GE1 GE2⟩
 ·exact ⟨er_,zl2_ HB GE1 GE2⟩
 ·exact ⟨er_,zl2_ HB GE1 GE2⟩

def r10_Find.l0:Nat→List (S79)→ByteArray→Int→Option (Int)
 |0,_,_,_=>none
 |k+1,x0,x1,x5=>if x5<(x0.length:Int) then (if 0≤x5 then (if ((rd_T79 x0 x5).f0).toList=x1.toList then (some x5) else (r10_Find.l0 k x0 x1 (wrap64 (x5+1)))) else (none)) else (some (-1))
def r10_Find.f (k:Nat) (l0:List (S79)) (a1:ByteArray):Option (Int):=r10_Find.l0 k l0 a1 0
theorem r10_Find.mono_l: ∀k,(∀y0 y1 y2,LeO (r10_Find.l0 k y0 y1 y2) (r10_Find.l0 (k+1) y0 y1 y2))
 |0=>fun _ _ _ r h=>by simp [r10_Find.l0] at h
 |k+1=>by
  have ih0:=r10_Find.mono_l k;intro y0 y1 y2;unfold r10_Find.l0
  repeat' with_reducible first|apply ih0|apply LeO.refl|apply LeO.none|apply LeO.ite|refine LeO.bind ?_ fun _=> ?_
theorem r10_Find.mono: ∀a0 a1 k,LeO (r10_Find.f k a0 a1) (r10_Find.f (k+1) a0 a1):=by
 intro a0 a1 k;have ih0:=r10_Find.mono_l k;unfold r10_Find.f
 repeat' with_reducible first|apply ih0|apply LeO.refl|apply LeO.none|apply LeO.ite|refine LeO.bind ?_ fun _=> ?_
set_option maxHeartbeats 8000000 in
set_option maxRecDepth 100000 in
theorem r10_Find.calls (k:Nat) (A0:Option Addr) (c0:Nat) (l0:List (S79)) (a1:ByteArray) (r:Int) (w:World) (hr0:Kd.C k79 w A0 l0.length l0) (hc0:l0.length≤c0) (h:r10_Find.f k l0 a1=some r):
  Calls Try.prog 52 #[.slice A0 l0.length c0, .string a1] w fun e w'=>e= .returned (.int .i64 r)∧Drawn0 w w':=by
 have HR0:=Aside0.mk hr0;have HC0:=Aside0.mk hc0;clear hr0 hc0;have H:(r10_Find.l0 k l0 a1 0)=some r:=h;clear h;have H':=Aside0.mk H;clear H;go_enter Try.func52,Try.ntmps52;go_wp2
 go_loopg [5] k (fun kq v5 w'=> ∃(x5_1:Int),v5= .int .i64 x5_1∧Aside0 (r10_Find.l0 kq l0 a1 x5_1=some r)∧Aside0 (kq≤k)∧Drawn0 w w')
 case atStart=>exact ⟨(0),rf_,H',⟨Nat.le_refl _⟩,by repeat (first|exact Drawn0.refl _|apply Drawn0.step)⟩
 case round=>
  clear H';obtain ⟨x5_1,rfl,HA,HK1,⟨m1,rfl⟩⟩:=hrel
  cases gk with
  |zero=>exact absurd HA.out (by simp [r10_Find.l0])
  |succ k1=>
   have H:=HA.out;clear HA;simp only [r10_Find.l0] at H;by_cases c3:x5_1<(l0.length:Int);rotate_left
   ·rw [if_neg c3] at H;have c3b0:=decide_eq_false c3;clear c3;obtain rfl:=Option.some.inj H;go_wp2
    go_ret
    exact ⟨by first|rfl|(simp;done)|(simp [*];done),by repeat (first|exact Drawn0.refl _|apply Drawn0.step)⟩

   rw [if_pos c3] at H;have c3b0:=decide_eq_true c3;clear c3;replace H:=zif_ H;obtain ⟨c4,H⟩:=H;replace c4:=decide_eq_true c4;by_cases c5:((rd_T79 l0 x5_1).f0).toList=a1.toList
   ·rw [if_pos c5] at H;have c5b0:=beq_iff_eq.mpr c5;have c5b1:=bne_eq_false_iff_eq.mpr c5;clear c5;obtain rfl:=Option.some.inj H;obtain ⟨p1,q1,ad1,e1,hx1_0,hx1_1,hx1_2,hx1_3,hx1_4,hx1_5,hx1_6,hx1_7,hx1_8,hx1_9,hx1_10,hx1_11⟩:=zat_ (at_T79 HR0.out x5_1);cases e1;go_wp2
    go_ret
    exact ⟨by first|rfl|(simp;done)|(simp [*];done),by repeat (first|exact Drawn0.refl _|apply Drawn0.step)⟩
   rw [if_neg c5] at H;have c5b0:=beq_eq_false_iff_ne.mpr c5;have c5b1:=bne_iff_ne.mpr c5;have H':=Aside0.mk H;clear H;obtain ⟨p1,q1,ad1,e1,hx1_0,hx1_1,hx1_2,hx1_3,hx1_4,hx1_5,hx1_6,hx1_7,hx1_8,hx1_9,hx1_10,hx1_11⟩:=zat_ (at_T79 HR0.out x5_1);cases e1;go_wp2
   go_roundg k1
   case measure=>have:=HK1.out;omega
   case rel=>exact ⟨(wrap64 (x5_1+1)),rf_,H',⟨by have:=HK1.out;omega⟩,by repeat (first|exact Drawn0.refl _|apply Drawn0.step)⟩
def r10_Up.l0:Nat→List (S79)→List ByteArray→Int→Option (List ByteArray)
 |0,_,_,_=>none
 |k+1,x0,x5,x6=>if x6≥0 then (if (x5.length:Int)≤(x0.length:Int) then (if 0≤x6 then (if x6<(x0.length:Int) then (if x5.length<8796093022208 then ((r10_Find.f k x0 ((rd_T79 x0 x6).f1)).bind fun t7=>(r10_Up.l0 k x0 (x5++ [(rd_T79 x0 x6).f0]) t7)) else (none)) else (none)) else (none)) else (some x5)) else (some x5)
def r10_Up.f (k:Nat) (l0:List (S79)) (a1:ByteArray):Option (List ByteArray):=(r10_Find.f k l0 a1).bind fun t1=>(r10_Up.l0 k l0 ([]:List ByteArray) t1)
theorem r10_Up.mono_l: ∀k,(∀y0 y1 y2,LeO (r10_Up.l0 k y0 y1 y2) (r10_Up.l0 (k+1) y0 y1 y2))
 |0=>fun _ _ _ r h=>by simp [r10_Up.l0] at h
 |k+1=>by
  have ih0:=r10_Up.mono_l k;intro y0 y1 y2;unfold r10_Up.l0
  repeat' with_reducible first|apply ih0|apply r10_Find.mono|apply LeO.refl|apply LeO.none|apply LeO.ite|refine LeO.bind ?_ fun _=> ?_
theorem r10_Up.mono: ∀a0 a1 k,LeO (r10_Up.f k a0 a1) (r10_Up.f (k+1) a0 a1):=by
 intro a0 a1 k;have ih0:=r10_Up.mono_l k;unfold r10_Up.f
 repeat' with_reducible first|apply ih0|apply r10_Find.mono|apply LeO.refl|apply LeO.none|apply LeO.ite|refine LeO.bind ?_ fun _=> ?_
set_option maxHeartbeats 8000000 in
set_option maxRecDepth 100000 in
theorem r10_Up.calls (k:Nat) (A0:Option Addr) (c0:Nat) (l0:List (S79)) (a1:ByteArray) (r:List ByteArray) (w:World) (hr0:Kd.C k79 w A0 l0.length l0) (hc0:l0.length≤c0) (h:r10_Up.f k l0 a1=some r):
  Calls Try.prog 55 #[.slice A0 l0.length c0, .string a1] w fun e w'=> ∃v0_:Value,e= .returned (v0_)∧Kd.R Kd.string 9 w' w.heap.size (fun _=>True) v0_ r∧Below w.heap.size w w':=by
 have HR0:=Aside0.mk hr0;have HC0:=Aside0.mk hc0;clear hr0 hc0;have HB:=am_ (Below.refl w.heap.size w);have H:((r10_Find.f k l0 a1).bind fun t1=>(r10_Up.l0 k l0 ([]:List ByteArray) t1))=some r:=h;clear h;replace H:=zbd_ H;obtain ⟨t1,A3,H⟩:=H;try dsimp only at H
 have H':=Aside0.mk H;clear H;go_enter Try.func55,Try.ntmps55;go_wp2_with (first|((with_reducible refine gate_callee (f:=52) rfl ?_);refine gl_ (some 9) Try.func52 #[.slice A0 l0.length c0, .string a1] ?_;(with_reducible refine (r10_Find.calls k _ _ l0 a1 t1 _ ?side1 ?side2 A3.out).mono ?_);(case side1=>repeat (first|exact HR0.out|(with_reducible refine Kd.C_alloc ?_ _)|(with_reducible refine Kd.C_drewN ?_ _)|(with_reducible refine Kd.C_drew ?_)));(case side2=>exact HC0.out);rintro e w' ⟨rfl,⟨nd,rfl⟩⟩;refine ⟨_,rfl, ?_⟩))
 go_loopg [5,6] k (fun kq v5 v6 w'=> ∃(x5_1:List ByteArray) (x6_1:Int),v6= .int .i64 x6_1∧Aside0 (r10_Up.l0 kq l0 x5_1 x6_1=some r)∧Aside0 (kq≤k)∧Aside0 (Kd.R Kd.string 9 w' w.heap.size (fun _=>True) v5 x5_1)∧Aside0 (Below w.heap.size w w'))
 case atStart=>exact ⟨(([]:List ByteArray)),(t1),rf_,H',⟨Nat.le_refl _⟩,⟨by first|exact Kd.R_nil _ _ _ _ _|exact Kd.N_nil _ _ _ _ _|exact Kd.V_nil _ _ _ _ _|exact Kd.Q_nil _ _ _ _ _|exact Kd.S_nil _ _ _ _ _⟩,⟨zl0_ HB⟩⟩
 case round=>
  clear H';obtain ⟨x5_1,x6_1,rfl,HA,HK1,HO_5,HB⟩:=hrel
  cases gk with
  |zero=>exact absurd HA.out (by simp [r10_Up.l0])
  |succ k1=>
   have H:=HA.out;clear HA;simp only [r10_Up.l0] at H;by_cases c4:x6_1≥0;rotate_left
   ·rw [if_neg c4] at H;have c4b0:decide (0≤x6_1)=false:=decide_eq_false c4;clear c4;obtain rfl:=Option.some.inj H;go_wp2
    go_ret
    exact ⟨_,er_,zr_ HO_5,zl0_ HB⟩

   rw [if_pos c4] at H;have c4b0:decide (0≤x6_1)=true:=decide_eq_true c4;clear c4;by_cases c5:(x5_1.length:Int)≤(l0.length:Int);rotate_left
   ·rw [if_neg c5] at H;have c5b0:=decide_eq_false c5;have c5b1:decide (x5_1.length≤l0.length)=false:=decide_eq_false (fun h=>c5 (Int.ofNat_le.mpr h));clear c5;obtain rfl:=Option.some.inj H;obtain ⟨Ao12,co12,eo12⟩:=Kd.R_slice HO_5.out;subst eo12;go_wp2
    go_ret
    exact ⟨_,er_,zr_ HO_5,zl0_ HB⟩
   rw [if_pos c5] at H;have c5b0:=decide_eq_true c5;have c5b1:decide (x5_1.length≤l0.length)=true:=decide_eq_true (Int.ofNat_le.mp c5);clear c5;replace H:=zif_ H;obtain ⟨c6,H⟩:=H;replace c6:=decide_eq_true c6;replace H:=zif_ H;obtain ⟨c7,H⟩:=H;replace c7:=decide_eq_true c7;replace H:=zif_ H;obtain ⟨c8,H⟩:=H;have LMc8:=Aside0.mk c8;clear c8;obtain ⟨y3,hy3⟩: ∃y_:List ByteArray,y_=(x5_1++ [(rd_T79 l0 x6_1).f0]):=⟨_,rfl⟩;(first|replace H:=zsb_ hy3 H|rw [←hy3] at H);have Ny3:=Aside0.mk hy3;clear hy3;replace H:=zbd_ H;obtain ⟨t7,A9,H⟩:=H;try dsimp only at H
   have H':=Aside0.mk H;clear H;obtain ⟨Ao10,co10,eo10⟩:=Kd.R_slice HO_5.out;subst eo10;obtain ⟨p2,q2,ad2,e2,hx2_0,hx2_1,hx2_2,hx2_3,hx2_4,hx2_5,hx2_6,hx2_7,hx2_8,hx2_9,hx2_10,hx2_11⟩:=zat_ (at_T79 HR0.out x6_1);cases e2;replace hx2_0:=zx12_ HB hx2_0 hx2_1 hx2_2 hx2_3 hx2_4 hx2_5 hx2_6 hx2_7 hx2_8 hx2_9 hx2_10 hx2_11;clear hx2_1 hx2_2 hx2_3 hx2_4 hx2_5 hx2_6 hx2_7 hx2_8 hx2_9 hx2_10 hx2_11;obtain ⟨hx2_0,hx2_1,hx2_2,hx2_3,hx2_4,hx2_5,hx2_6,hx2_7,hx2_8,hx2_9,hx2_10,hx2_11⟩:=hx2_0
   go_wp2_with (first|((with_reducible refine gate_builtin (b:= .append) (xs:=#[.tmp 26, .tmp 32]) rfl ?_);(try (refine gate_guard (by rfl) ?_;dsimp only));at_builtin;refine Kd.R_append Kd.string (w0:=w) w.heap.size rfl (.tmp 26) (.tmp 32) 85 9 (.string ⟨#[]⟩) 16 rfl Try.underlying85 info9 rfl (by decide) (by omega) (.slice Ao10 x5_1.length co10) x5_1 ((rd_T79 l0 x6_1).f0) [.string ((rd_T79 l0 x6_1).f0)] (fun _=>True) (fun _=>False) rfl rfl ?aP (fun _ hk=>hk.elim) ?aF ?aO ?aB ?aS ?aL ?_;(case aP=>exact rfl);(case aB=>exact (zl0_ HB));(case aF=>exact (fun _ _=>trivial));(case aO=>exact (zr_ HO_5));(case aS=>exact (below_size (zl0_ HB)));(case aL=>have:=LMc8.out;omega);intro v4 w11 ho hb hg hat;rw [←Ny3.out] at ho;have n0_:=am_ (hb);have n1_:=am_ (ho);clear HB;clear HO_5;have HB:=n0_;have HO5:=n1_;clear n0_ n1_;clear ho hb hg hat;have p6:0≤(x6_1:Int):=of_decide_eq_true zq_;have q6:x6_1<(l0.length:Int):=of_decide_eq_true zq_;obtain ⟨ad6,e6,hx6_0,hx6_1,hx6_2,hx6_3,hx6_4,hx6_5,hx6_6,hx6_7,hx6_8,hx6_9,hx6_10,hx6_11⟩:=at_T79 HR0.out x6_1 p6 q6;obtain rfl:ad2=ad6:=(by injection e6);replace hx6_0:=zx12_ HB hx6_0 hx6_1 hx6_2 hx6_3 hx6_4 hx6_5 hx6_6 hx6_7 hx6_8 hx6_9 hx6_10 hx6_11;clear hx6_1 hx6_2 hx6_3 hx6_4 hx6_5 hx6_6 hx6_7 hx6_8 hx6_9 hx6_10 hx6_11;obtain ⟨hx6_0,hx6_1,hx6_2,hx6_3,hx6_4,hx6_5,hx6_6,hx6_7,hx6_8,hx6_9,hx6_10,hx6_11⟩:=hx6_0;replace p6:=eq_true p6;replace q6:=eq_true q6)|((with_reducible refine gate_callee (f:=52) rfl ?_);refine gl_ (some 25) Try.func52 #[.slice (some ad2) l0.length c0, .string ((rd_T79 l0 x6_1).f1)] ?_;(with_reducible refine (r10_Find.calls k1 _ _ l0 ((rd_T79 l0 x6_1).f1) t7 _ ?side1 ?side2 A9.out).mono ?_);(case side1=>exact zc_ (Kd.C_below HR0.out HB.out));(case side2=>exact HC0.out);rintro e w' ⟨rfl,⟨nd,rfl⟩⟩;refine ⟨_,rfl, ?_⟩))
   go_roundg k1
   case measure=>have:=HK1.out;omega
   case rel=>exact ⟨(y3),(t7),rf_,H',⟨by have:=HK1.out;omega⟩,am_ (zr_ HO5),⟨zl0_ HB⟩⟩
attribute [local go_sem high] eqA37
mutual
def r10_Right.l0:Nat→List (S79)→Int→Option (Bool)
 |0,_,_=>none
 |k+1,x0,x3=>if x3<(x0.length:Int) then (if 0≤x3 then ((r10_MayName.f ((rd_T79 x0 x3).f0)).bind fun t3=>(if t3=true then (if x3>0 then (if 0≤(wrap64 (x3 - 1)) then (if (wrap64 (x3 - 1))<(x0.length:Int) then (if ((Op.bytesLess (((rd_T79 x0 (wrap64 (x3 - 1))).f0).toList) (((rd_T79 x0 x3).f0).toList))=true) then ((r10_MayVec.f ((rd_T79 x0 x3).f2.f0) ((rd_T79 x0 x3).f2.f1) ((rd_T79 x0 x3).f2.f2)).bind fun t5=>(if t5=true then ((r10_MayVec.f ((rd_T79 x0 x3).f3.f0) ((rd_T79 x0 x3).f3.f1) ((rd_T79 x0 x3).f3.f2)).bind fun t6=>(if t6=true then (if ((rd_T79 x0 x3).f1).toList=([]:List UInt8) then (if ((rd_T79 x0 x3).f5)<1 then (some false) else (if ((rd_T79 x0 x3).f5)>9007199254740992 then (some false) else ((r10_Le.f ((rd_T79 x0 x3).f4.f0) ((rd_T79 x0 x3).f4.f1) ((rd_T79 x0 x3).f4.f2) ((rd_T79 x0 x3).f2.f0) ((rd_T79 x0 x3).f2.f1) ((rd_T79 x0 x3).f2.f2)).bind fun t7=>(if t7=true then ((r10_MayVec.f ((rd_T79 x0 x3).f4.f0) ((rd_T79 x0 x3).f4.f1) ((rd_T79 x0 x3).f4.f2)).bind fun t8=>(if t8=true then (r10_Right.l0 k x0 (wrap64 (x3+1))) else (some false))) else (some false))))) else ((r10_Find.f k x0 ((rd_T79 x0 x3).f1)).bind fun t9=>(if t9<0 then (some false) else (if ((rd_T79 x0 x3).f5)<1 then (some false) else (if ((rd_T79 x0 x3).f5)>9007199254740992 then (some false) else ((r10_Le.f ((rd_T79 x0 x3).f4.f0) ((rd_T79 x0 x3).f4.f1) ((rd_T79 x0 x3).f4.f2) ((rd_T79 x0 x3).f2.f0) ((rd_T79 x0 x3).f2.f1) ((rd_T79 x0 x3).f2.f2)).bind fun t10=>(if t10=true then ((r10_MayVec.f ((rd_T79 x0 x3).f4.f0) ((rd_T79 x0 x3).f4.f1) ((rd_T79 x0 x3).f4.f2)).bind fun t11=>(if t11=true then (r10_Right.l0 k x0 (wrap64 (x3+1))) else (some false))) else (some false)))))))) else (some false))) else (some false))) else (some false)) else (none)) else (none)) else ((r10_MayVec.f ((rd_T79 x0 x3).f2.f0) ((rd_T79 x0 x3).f2.f1) ((rd_T79 x0 x3).f2.f2)).bind fun t12=>(if t12=true then ((r10_MayVec.f ((rd_T79 x0 x3).f3.f0) ((rd_T79 x0 x3).f3.f1) ((rd_T79 x0 x3).f3.f2)).bind fun t13=>(if t13=true then (if ((rd_T79 x0 x3).f1).toList=([]:List UInt8) then (if ((rd_T79 x0 x3).f5)<1 then (some false) else (if ((rd_T79 x0 x3).f5)>9007199254740992 then (some false) else ((r10_Le.f ((rd_T79 x0 x3).f4.f0) ((rd_T79 x0 x3).f4.f1) ((rd_T79 x0 x3).f4.f2) ((rd_T79 x0 x3).f2.f0) ((rd_T79 x0 x3).f2.f1) ((rd_T79 x0 x3).f2.f2)).bind fun t14=>(if t14=true then ((r10_MayVec.f ((rd_T79 x0 x3).f4.f0) ((rd_T79 x0 x3).f4.f1) ((rd_T79 x0 x3).f4.f2)).bind fun t15=>(if t15=true then (r10_Right.l0 k x0 (wrap64 (x3+1))) else (some false))) else (some false))))) else ((r10_Find.f k x0 ((rd_T79 x0 x3).f1)).bind fun t16=>(if t16<0 then (some false) else (if ((rd_T79 x0 x3).f5)<1 then (some false) else (if ((rd_T79 x0 x3).f5)>9007199254740992 then (some false) else ((r10_Le.f ((rd_T79 x0 x3).f4.f0) ((rd_T79 x0 x3).f4.f1) ((rd_T79 x0 x3).f4.f2) ((rd_T79 x0 x3).f2.f0) ((rd_T79 x0 x3).f2.f1) ((rd_T79 x0 x3).f2.f2)).bind fun t17=>(if t17=true then ((r10_MayVec.f ((rd_T79 x0 x3).f4.f0) ((rd_T79 x0 x3).f4.f1) ((rd_T79 x0 x3).f4.f2)).bind fun t18=>(if t18=true then (r10_Right.l0 k x0 (wrap64 (x3+1))) else (some false))) else (some false)))))))) else (some false))) else (some false)))) else (some false))) else (none)) else (r10_Right.l1 k x0 0)
def r10_Right.l1:Nat→List (S79)→Int→Option (Bool)
 |0,_,_=>none
 |k+1,x0,x5=>if x5<(x0.length:Int) then (if 0≤x5 then (r10_Right.l2 k x0 x5 0 ((rd_T79 x0 x5).f3.f0) ((rd_T79 x0 x5).f3.f1) ((rd_T79 x0 x5).f3.f2)) else (none)) else (some true)
def r10_Right.l2:Nat→List (S79)→Int→Int→Int→Int→Int→Option (Bool)
 |0,_,_,_,_,_,_=>none
 |k+1,x0,x5,x7,x21000,x21001,x21002=>if x7<(x0.length:Int) then (if 0≤x7 then (if 0≤x5 then (if x5<(x0.length:Int) then (if ((rd_T79 x0 x7).f1).toList=((rd_T79 x0 x5).f0).toList then ((r10_Add.f x21000 x21001 x21002 ((rd_T79 x0 x7).f4.f0) ((rd_T79 x0 x7).f4.f1) ((rd_T79 x0 x7).f4.f2)).bind fun bt24=>(r10_Right.l2 k x0 x5 (wrap64 (x7+1)) bt24.1 bt24.2.1 bt24.2.2)) else (r10_Right.l2 k x0 x5 (wrap64 (x7+1)) x21000 x21001 x21002)) else (none)) else (none)) else (none)) else (if 0≤x5 then (if x5<(x0.length:Int) then (if (!(x21000==((rd_T79 x0 x5).f4.f0))||(!(x21001==((rd_T79 x0 x5).f4.f1))||(!(x21002==((rd_T79 x0 x5).f4.f2)))))=true then (some false) else ((r10_Up.f k x0 ((rd_T79 x0 x5).f0)).bind fun t29=>(if (t29.length:Int)>(x0.length:Int) then (some false) else (r10_Right.l1 k x0 (wrap64 (x5+1)))))) else (none)) else (none))
end
def r10_Right.f (k:Nat) (l0:List (S79)):Option (Bool):=if (l0.length:Int)>120 then (some false) else (r10_Right.l0 k l0 0)
theorem r10_Right.mono_l: ∀k,(∀y0 y1,LeO (r10_Right.l0 k y0 y1) (r10_Right.l0 (k+1) y0 y1))∧(∀y0 y1,LeO (r10_Right.l1 k y0 y1) (r10_Right.l1 (k+1) y0 y1))∧(∀y0 y1 y2 y3 y4 y5,LeO (r10_Right.l2 k y0 y1 y2 y3 y4 y5) (r10_Right.l2 (k+1) y0 y1 y2 y3 y4 y5))
 |0=>⟨fun _ _ r h=>by simp [r10_Right.l0] at h,fun _ _ r h=>by simp [r10_Right.l1] at h,fun _ _ _ _ _ _ r h=>by simp [r10_Right.l2] at h⟩
 |k+1=>by
  obtain ⟨ih0,ih1,ih2⟩:=r10_Right.mono_l k;refine ⟨?_, ?_, ?_⟩<;>(intros;first|unfold r10_Right.l0|unfold r10_Right.l1|unfold r10_Right.l2)<;>repeat' with_reducible first|apply ih0|apply ih1|apply ih2|apply r10_Find.mono|apply r10_Up.mono|apply LeO.refl|apply LeO.none|apply LeO.ite|refine LeO.bind ?_ fun _=> ?_
theorem r10_Right.mono: ∀a0 k,LeO (r10_Right.f k a0) (r10_Right.f (k+1) a0):=by
 intro a0 k;obtain ⟨ih0,ih1,ih2⟩:=r10_Right.mono_l k;unfold r10_Right.f
 repeat' with_reducible first|apply ih0|apply ih1|apply ih2|apply r10_Find.mono|apply r10_Up.mono|apply LeO.refl|apply LeO.none|apply LeO.ite|refine LeO.bind ?_ fun _=> ?_
def r10_Right.T7:Bool×List (List Nat×List Nat):=(true,[([],[]),([0],[0]),([1],[1]),([2],[2]),([3,2],[3]),([4],[4]),([5,4],[4,5]),([6,4,4],[4,6]),([7],[7]),([7],[7]),([9,7],[7,9]),([8,10,7],[7,8,10]),([11,7],[7,11]),([12,7],[7,12]),([7],[7]),([14,7],[7,14]),([13,15,7],[7,13,15]),([7,16,4],[4,7,16]),([4,17],[4,17]),([18,7],[18]),([19],[19]),([20,19],[19,20]),([21,19,19],[19,21]),([22,19],[19,22]),([19,23],[19,23]),([24,22],[24]),([25],[25]),([26,25],[25,26]),([27,25,25],[25,27]),([28,25],[25,28]),([25,29],[25,29]),([30,28],[30]),([31],[31]),([32,31],[31,32]),([33,31],[31,33]),([34,31,31],[31,34]),([35],[35]),([35],[35]),([37,35],[35,37]),([36,38,35,35],[35,36,38]),([39,35],[35,39]),([35,40,31],[31,35,40]),([31,41],[31,41]),([42,39],[42]),([43],[43]),([44,43],[43,44]),([45,43],[43,45]),([43,46],[43,46]),([47,43],[47]),([48],[48]),([49,48],[48,49]),([50,48],[48,50]),([48,51],[48,51]),([52,48],[52]),([53],[53]),([54,53],[53,54]),([53],[53]),([56,53],[53,56]),([55,57,53,53],[53,55,57]),([58,53],[53,58]),([53,59],[53,59]),([60,58],[60]),([61],[61]),([62,61],[61,62]),([63,61,61],[61,63]),([64,61],[61,64]),([61,65],[61,65])])
def r10_Right.B7:List Nat:=[0,1,3,7,15,31,63,127,255,255,767,2047,4095,8191,255,16639,65535,131071,262143,524287,1048575,2097151,4194303,8388607,16777215,33554431,67108863,134217727,268435455,536870911,1073741823,2147483647,4294967295,8589934591,17179869183,34359738367,68719476735,68719476735,206158430207,549755813887,1099511627775,2199023255551,4398046511103,8796093022207,17592186044415,35184372088831,70368744177663,140737488355327,281474976710655,562949953421311,1125899906842623,2251799813685247,4503599627370495,9007199254740991,18014398509481983,36028797018963967,18014398509481983,90071992547409919,288230376151711743,576460752303423487,1152921504606846975,2305843009213693951,4611686018427387903,9223372036854775807,18446744073709551615,36893488147419103231,73786976294838206463]
theorem r10_Right.tab7:rtab .any (opsOf Try.f44 7)=r10_Right.T7:=by kernel_rfl
theorem r10_Right.bits7:waitsOk r10_Right.T7.2 r10_Right.B7=true:=by kernel_rfl
def r10_Right.T16:Bool×List (List Nat×List Nat):=(true,[([],[]),([],[]),([0,1],[0,1]),([2],[2]),([3],[3]),([],[]),([],[]),([5,6],[5,6]),([7],[7]),([8],[8]),([4,9],[4,9])])
def r10_Right.B16:List Nat:=[0,0,3,7,15,0,0,96,224,480,1023]
theorem r10_Right.tab16:rtab .any (opsOf Try.f44 16)=r10_Right.T16:=by kernel_rfl
theorem r10_Right.bits16:waitsOk r10_Right.T16.2 r10_Right.B16=true:=by kernel_rfl
def r10_Right.T17:Bool×List (List Nat×List Nat):=(true,[([],[]),([],[]),([],[]),([1,2],[1,2]),([3],[3]),([4],[4]),([0,5],[0,5]),([6,6,0,1,2,3,4,5,6],[6])])
def r10_Right.B17:List Nat:=[0,0,0,6,14,30,63,127]
theorem r10_Right.tab17:rtab .any (opsOf Try.f44 17)=r10_Right.T17:=by kernel_rfl
theorem r10_Right.bits17:waitsOk r10_Right.T17.2 r10_Right.B17=true:=by kernel_rfl
def r10_Right.T18:Bool×List (List Nat×List Nat):=(true,[([],[]),([],[]),([],[]),([1,2],[1,2]),([3],[3]),([4],[4]),([0,5],[0,5]),([6],[6]),([7],[7]),([7],[7]),([7],[7]),([9,10,7],[7,9,10]),([11,7],[7,11]),([12,7],[7,12]),([8,13,7,7],[7,8,13]),([14,7],[7,14]),([7],[7]),([16,7],[7,16]),([15,17,7],[7,15,17]),([7,18],[7,18])])
def r10_Right.B18:List Nat:=[0,0,0,6,14,30,63,127,255,255,255,1791,3839,7935,16383,32767,255,65791,262143,524287]
theorem r10_Right.tab18:rtab .any (opsOf Try.f44 18)=r10_Right.T18:=by kernel_rfl
theorem r10_Right.bits18:waitsOk r10_Right.T18.2 r10_Right.B18=true:=by kernel_rfl
def r10_Right.tk (k:Nat):Array Bool:=(List.replicate k true++List.replicate (67 - k) false).toArray
set_option maxHeartbeats 8000000 in
set_option maxRecDepth 100000 in
theorem r10_Right.calls (k:Nat) (A0:Option Addr) (c0:Nat) (l0:List (S79)) (r:Bool) (w:World) (hr0:Kd.C k79 w A0 l0.length l0) (hc0:l0.length≤c0) (h:r10_Right.f k l0=some r):
  Calls Try.prog 44 #[.slice A0 l0.length c0] w fun e w'=>e= .returned (.bool r)∧Below w.heap.size w w':=by
 have hu79:=Try.underlying79;have hu37:=Try.underlying37;have HR0:=Aside0.mk hr0;have HC0:=Aside0.mk hc0;clear hr0 hc0;have HB:=am_ (Below.refl w.heap.size w);have H:(if (l0.length:Int)>120 then (some false) else (r10_Right.l0 k l0 0))=some r:=h;clear h;by_cases c2:(l0.length:Int)>120
 ·rw [if_pos c2] at H;have c2b0:decide (120<(l0.length:Int))=true:=decide_eq_true c2;have c2b1:decide (120<l0.length)=true:=decide_eq_true (by omega);clear c2;obtain rfl:=Option.some.inj H;go_enter Try.func44,Try.ntmps44;go_wp2
  go_ret
  exact ⟨er_,zl0_ HB⟩
 ·rw [if_neg c2] at H;have c2b0:decide (120<(l0.length:Int))=false:=decide_eq_false c2;have c2b1:decide (120<l0.length)=false:=decide_eq_false (by omega);clear c2;have H':=Aside0.mk H;clear H;go_enter Try.func44,Try.ntmps44;go_wp2
  go_loopg [3] k (fun kq v3 w'=> ∃(x3_1:Int),v3= .int .i64 x3_1∧Aside0 (r10_Right.l0 kq l0 x3_1=some r)∧Aside0 (kq≤k)∧Aside0 (Below w.heap.size w w'))
  case atStart=>exact ⟨(0),rf_,H',⟨Nat.le_refl _⟩,⟨zl0_ HB⟩⟩
  case round=>
   clear H';obtain ⟨x3_1,rfl,HA,HK1,HB⟩:=hrel
   cases gk with
   |zero=>exact absurd HA.out (by simp [r10_Right.l0])
   |succ k1=>
    have H:=HA.out;clear HA;simp only [r10_Right.l0] at H;by_cases c3:x3_1<(l0.length:Int)
    ·rw [if_pos c3] at H;have c3b0:=decide_eq_true c3;clear c3;by_cases c4:0≤x3_1
     ·rw [if_pos c4] at H;replace c4:=decide_eq_true c4;have HC7:=Aside0.mk H;clear H;obtain ⟨p1,q1,ad1,e1,hx1_0,hx1_1,hx1_2,hx1_3,hx1_4,hx1_5,hx1_6,hx1_7,hx1_8,hx1_9,hx1_10,hx1_11⟩:=zat_ (at_T79 HR0.out x3_1);cases e1;replace hx1_0:=zx12_ HB hx1_0 hx1_1 hx1_2 hx1_3 hx1_4 hx1_5 hx1_6 hx1_7 hx1_8 hx1_9 hx1_10 hx1_11;clear hx1_1 hx1_2 hx1_3 hx1_4 hx1_5 hx1_6 hx1_7 hx1_8 hx1_9 hx1_10 hx1_11;obtain ⟨hx1_0,hx1_1,hx1_2,hx1_3,hx1_4,hx1_5,hx1_6,hx1_7,hx1_8,hx1_9,hx1_10,hx1_11⟩:=hx1_0
      try go_wp2_with (first|((with_reducible refine gate_dst (N:=4) rfl ?_);(try (refine gate_guard (by rfl) ?_;dsimp only));refine bx_ (N:=4) (cs:=#[.string (⟨#[]⟩:ByteArray), .string (⟨#[]⟩:ByteArray), .int .i64 0, .int .i64 0, .int .i64 0, .int .i64 0, .int .i64 0, .int .i64 0, .int .i64 0, .int .i64 0, .int .i64 0, .int .i64 0]) (t:=79) ?_;intro gb2 hg w18 hbox hb;have BK2:=am_ (hbox);have GE2:=am_ ((zg0_ HB hg:w.heap.size≤gb2));replace HB:=am_ (below_step (zl0_ HB) hb);clear hb hbox hg;obtain ⟨_,_,_,_,_,_,_,_,_,_,_,_⟩:=x12_ BK2;obtain ⟨_,_,_,_,_,_,_,_,_,_,_,_⟩:=ff12_ BK2))
      have n0_:Aside0 (((((((((((((w18.setCell ⟨gb2,0,none⟩ (.string ((rd_T79 l0 x3_1).f0))).setCell ⟨gb2,1,none⟩ (.string ((rd_T79 l0 x3_1).f1))).setCell ⟨gb2,2,none⟩ (.int .i64 ((rd_T79 l0 x3_1).f2.f0))).setCell ⟨gb2,3,none⟩ (.int .i64 ((rd_T79 l0 x3_1).f2.f1))).setCell ⟨gb2,4,none⟩ (.int .i64 ((rd_T79 l0 x3_1).f2.f2))).setCell ⟨gb2,5,none⟩ (.int .i64 ((rd_T79 l0 x3_1).f3.f0))).setCell ⟨gb2,6,none⟩ (.int .i64 ((rd_T79 l0 x3_1).f3.f1))).setCell ⟨gb2,7,none⟩ (.int .i64 ((rd_T79 l0 x3_1).f3.f2))).setCell ⟨gb2,8,none⟩ (.int .i64 ((rd_T79 l0 x3_1).f4.f0))).setCell ⟨gb2,9,none⟩ (.int .i64 ((rd_T79 l0 x3_1).f4.f1))).setCell ⟨gb2,10,none⟩ (.int .i64 ((rd_T79 l0 x3_1).f4.f2))).setCell ⟨gb2,11,none⟩ (.int .i64 ((rd_T79 l0 x3_1).f5))).heap[gb2]?=some (.cells #[.string ((rd_T79 l0 x3_1).f0), .string ((rd_T79 l0 x3_1).f1), .int .i64 ((rd_T79 l0 x3_1).f2.f0), .int .i64 ((rd_T79 l0 x3_1).f2.f1), .int .i64 ((rd_T79 l0 x3_1).f2.f2), .int .i64 ((rd_T79 l0 x3_1).f3.f0), .int .i64 ((rd_T79 l0 x3_1).f3.f1), .int .i64 ((rd_T79 l0 x3_1).f3.f2), .int .i64 ((rd_T79 l0 x3_1).f4.f0), .int .i64 ((rd_T79 l0 x3_1).f4.f1), .int .i64 ((rd_T79 l0 x3_1).f4.f2), .int .i64 ((rd_T79 l0 x3_1).f5)] 79 (0,0))):=⟨zw_ BK2⟩
      have n1_:Aside0 (Below w.heap.size w ((((((((((((w18.setCell ⟨gb2,0,none⟩ (.string ((rd_T79 l0 x3_1).f0))).setCell ⟨gb2,1,none⟩ (.string ((rd_T79 l0 x3_1).f1))).setCell ⟨gb2,2,none⟩ (.int .i64 ((rd_T79 l0 x3_1).f2.f0))).setCell ⟨gb2,3,none⟩ (.int .i64 ((rd_T79 l0 x3_1).f2.f1))).setCell ⟨gb2,4,none⟩ (.int .i64 ((rd_T79 l0 x3_1).f2.f2))).setCell ⟨gb2,5,none⟩ (.int .i64 ((rd_T79 l0 x3_1).f3.f0))).setCell ⟨gb2,6,none⟩ (.int .i64 ((rd_T79 l0 x3_1).f3.f1))).setCell ⟨gb2,7,none⟩ (.int .i64 ((rd_T79 l0 x3_1).f3.f2))).setCell ⟨gb2,8,none⟩ (.int .i64 ((rd_T79 l0 x3_1).f4.f0))).setCell ⟨gb2,9,none⟩ (.int .i64 ((rd_T79 l0 x3_1).f4.f1))).setCell ⟨gb2,10,none⟩ (.int .i64 ((rd_T79 l0 x3_1).f4.f2))).setCell ⟨gb2,11,none⟩ (.int .i64 ((rd_T79 l0 x3_1).f5)))):=⟨zl1_ HB GE2⟩
      generalize ((((((((((((w18.setCell ⟨gb2,0,none⟩ (.string ((rd_T79 l0 x3_1).f0))).setCell ⟨gb2,1,none⟩ (.string ((rd_T79 l0 x3_1).f1))).setCell ⟨gb2,2,none⟩ (.int .i64 ((rd_T79 l0 x3_1).f2.f0))).setCell ⟨gb2,3,none⟩ (.int .i64 ((rd_T79 l0 x3_1).f2.f1))).setCell ⟨gb2,4,none⟩ (.int .i64 ((rd_T79 l0 x3_1).f2.f2))).setCell ⟨gb2,5,none⟩ (.int .i64 ((rd_T79 l0 x3_1).f3.f0))).setCell ⟨gb2,6,none⟩ (.int .i64 ((rd_T79 l0 x3_1).f3.f1))).setCell ⟨gb2,7,none⟩ (.int .i64 ((rd_T79 l0 x3_1).f3.f2))).setCell ⟨gb2,8,none⟩ (.int .i64 ((rd_T79 l0 x3_1).f4.f0))).setCell ⟨gb2,9,none⟩ (.int .i64 ((rd_T79 l0 x3_1).f4.f1))).setCell ⟨gb2,10,none⟩ (.int .i64 ((rd_T79 l0 x3_1).f4.f2))).setCell ⟨gb2,11,none⟩ (.int .i64 ((rd_T79 l0 x3_1).f5)))=w20 at n0_ n1_ ⊢;have BK2:=n0_;have HB:=n1_;clear n0_ n1_;have b0:w20.cell? ⟨gb2,0,none⟩=some (.string ((rd_T79 l0 x3_1).f0)):=zz_ BK2 0;have b1:w20.cell? ⟨gb2,1,none⟩=some (.string ((rd_T79 l0 x3_1).f1)):=zz_ BK2 1;have b2:w20.cell? ⟨gb2,2,none⟩=some (.int .i64 ((rd_T79 l0 x3_1).f2.f0)):=zz_ BK2 2;have b3:w20.cell? ⟨gb2,3,none⟩=some (.int .i64 ((rd_T79 l0 x3_1).f2.f1)):=zz_ BK2 3;have b4:w20.cell? ⟨gb2,4,none⟩=some (.int .i64 ((rd_T79 l0 x3_1).f2.f2)):=zz_ BK2 4;have b5:w20.cell? ⟨gb2,5,none⟩=some (.int .i64 ((rd_T79 l0 x3_1).f3.f0)):=zz_ BK2 5;have b6:w20.cell? ⟨gb2,6,none⟩=some (.int .i64 ((rd_T79 l0 x3_1).f3.f1)):=zz_ BK2 6;have b7:w20.cell? ⟨gb2,7,none⟩=some (.int .i64 ((rd_T79 l0 x3_1).f3.f2)):=zz_ BK2 7
      have b8:w20.cell? ⟨gb2,8,none⟩=some (.int .i64 ((rd_T79 l0 x3_1).f4.f0)):=zz_ BK2 8;have b9:w20.cell? ⟨gb2,9,none⟩=some (.int .i64 ((rd_T79 l0 x3_1).f4.f1)):=zz_ BK2 9;have b10:w20.cell? ⟨gb2,10,none⟩=some (.int .i64 ((rd_T79 l0 x3_1).f4.f2)):=zz_ BK2 10;have b11:w20.cell? ⟨gb2,11,none⟩=some (.int .i64 ((rd_T79 l0 x3_1).f5)):=zz_ BK2 11;obtain ⟨t3,A50,H⟩:=Option.bind_eq_some_iff.mp HC7.out;have A5:=Aside0.mk A50;have HC:=Aside0.mk H;clear A50 H HC7;have c9:0<x3_1→0≤wrap64 (x3_1 - 1)∧wrap64 (x3_1 - 1)<(l0.length:Int):=fun q=>by have:=of_eq_true p1;have:=of_eq_true q1;have:l0.length≤9223372036854775807:=HR0.out.2.1;unfold wrap64;omega
      by_cases c7:x3_1>0;obtain ⟨c9,c10⟩:=c9 c7;have c7b0:decide (0<x3_1)=true:=decide_eq_true c7;obtain ⟨ji8,hji8⟩: ∃j_:Int,(wrap64 (x3_1 - 1))=j_:=⟨_,rfl⟩;rw [hji8] at c9 c10;have hji8w:(IntKind.i64.wrap (x3_1 - 1))=ji8:=(i64_w _).trans hji8;obtain ⟨ad7,e7,hp, -⟩:=at_T79 HR0.out ji8 c9 c10;obtain rfl:ad1=ad7:=(by injection e7);replace hp:=zx_ HB hp;have p7:=eq_true c9;have q7:=eq_true c10;have C7:=Aside0.mk c7;have C9:=Aside0.mk c9;have C10:=Aside0.mk c10;clear c7 c9 c10;rotate_left;have c7b0:decide (0<x3_1)=false:=decide_eq_false c7;have N7:=Aside0.mk c7;clear c7 c9
      all_goals (
        have HBc:=am_ (below_drew1 (Below.refl w20.heap.size w20))
        first|(refine start_ (n:=67) (S:=fun w'=>w'.cell? ⟨gb2,0,none⟩=some (.string ((rd_T79 l0 x3_1).f0))∧w'.cell? ⟨gb2,1,none⟩=some (.string ((rd_T79 l0 x3_1).f1))∧w'.cell? ⟨gb2,2,none⟩=some (.int .i64 ((rd_T79 l0 x3_1).f2.f0))∧w'.cell? ⟨gb2,3,none⟩=some (.int .i64 ((rd_T79 l0 x3_1).f2.f1))∧w'.cell? ⟨gb2,4,none⟩=some (.int .i64 ((rd_T79 l0 x3_1).f2.f2))∧w'.cell? ⟨gb2,5,none⟩=some (.int .i64 ((rd_T79 l0 x3_1).f3.f0))∧w'.cell? ⟨gb2,6,none⟩=some (.int .i64 ((rd_T79 l0 x3_1).f3.f1))∧w'.cell? ⟨gb2,7,none⟩=some (.int .i64 ((rd_T79 l0 x3_1).f3.f2))∧w'.cell? ⟨gb2,8,none⟩=some (.int .i64 ((rd_T79 l0 x3_1).f4.f0))∧w'.cell? ⟨gb2,9,none⟩=some (.int .i64 ((rd_T79 l0 x3_1).f4.f1))∧w'.cell? ⟨gb2,10,none⟩=some (.int .i64 ((rd_T79 l0 x3_1).f4.f2))∧w'.cell? ⟨gb2,11,none⟩=some (.int .i64 ((rd_T79 l0 x3_1).f5))∧w'.cell? (ad1.add (((ji8)).toNat*12))=some (.string ((rd_T79 l0 (ji8)).f0))) (ds:=[]) (bt_ 67 0) (by kernel_rfl) rfl rfl ?_ (fun hHeld=> ?_);(refine ⟨?_, ?_, ?_, ?_, ?_, ?_, ?_, ?_, ?_, ?_, ?_, ?_, ?_⟩<;>first|exact pw_cell_below HBc.out (by assumption)|(go_keep;done)))|(refine start_ (n:=67) (S:=fun w'=>w'.cell? ⟨gb2,0,none⟩=some (.string ((rd_T79 l0 x3_1).f0))∧w'.cell? ⟨gb2,1,none⟩=some (.string ((rd_T79 l0 x3_1).f1))∧w'.cell? ⟨gb2,2,none⟩=some (.int .i64 ((rd_T79 l0 x3_1).f2.f0))∧w'.cell? ⟨gb2,3,none⟩=some (.int .i64 ((rd_T79 l0 x3_1).f2.f1))∧w'.cell? ⟨gb2,4,none⟩=some (.int .i64 ((rd_T79 l0 x3_1).f2.f2))∧w'.cell? ⟨gb2,5,none⟩=some (.int .i64 ((rd_T79 l0 x3_1).f3.f0))∧w'.cell? ⟨gb2,6,none⟩=some (.int .i64 ((rd_T79 l0 x3_1).f3.f1))∧w'.cell? ⟨gb2,7,none⟩=some (.int .i64 ((rd_T79 l0 x3_1).f3.f2))∧w'.cell? ⟨gb2,8,none⟩=some (.int .i64 ((rd_T79 l0 x3_1).f4.f0))∧w'.cell? ⟨gb2,9,none⟩=some (.int .i64 ((rd_T79 l0 x3_1).f4.f1))∧w'.cell? ⟨gb2,10,none⟩=some (.int .i64 ((rd_T79 l0 x3_1).f4.f2))∧w'.cell? ⟨gb2,11,none⟩=some (.int .i64 ((rd_T79 l0 x3_1).f5))) (ds:=[]) (bt_ 67 0) (by kernel_rfl) rfl rfl ?_ (fun hHeld=> ?_);(refine ⟨?_, ?_, ?_, ?_, ?_, ?_, ?_, ?_, ?_, ?_, ?_, ?_⟩<;>first|exact pw_cell_below HBc.out (by assumption)|(go_keep;done)))
        refine with_tabW r10_Right.tab7 r10_Right.bits7 (fun HT_ HW_=> ?_)
        generalize w20.drew=wd at HBc hHeld ⊢)
      all_goals (refine pu_ (i:=0) (N:=some 21) (r10_Right.tk 1) HT_ ?_)
      all_goals (refine tk_ (i:=1) (N:=some 22) (r10_Right.tk 2) HT_ HW_ hHeld ?_)
      all_goals (refine on_ (i:=2) (N:=some 23) (r10_Right.tk 3) HT_ (fun K hK=> ?_);refine gs_ Try.func67 #[.string ((rd_T79 l0 x3_1).f0)] ?_;with_reducible refine (r10_MayName.calls _ _ _ A5.out).mono ?_;rintro e wx2 ⟨rfl,hd⟩;have hb:=hd.below;clear hd;refine ⟨_,rfl, ?_⟩;have HBn:=am_ (below_step HBc.out hb);clear HBc;have HBc:=HBn;clear HBn;refine hK.out _ _ (by first|exact ⟨pw_cell_below hb hHeld.1,pw_cell_below hb hHeld.2.1,pw_cell_below hb hHeld.2.2.1,pw_cell_below hb hHeld.2.2.2.1,pw_cell_below hb hHeld.2.2.2.2.1,pw_cell_below hb hHeld.2.2.2.2.2.1,pw_cell_below hb hHeld.2.2.2.2.2.2.1,pw_cell_below hb hHeld.2.2.2.2.2.2.2.1,pw_cell_below hb hHeld.2.2.2.2.2.2.2.2.1,pw_cell_below hb hHeld.2.2.2.2.2.2.2.2.2.1,pw_cell_below hb hHeld.2.2.2.2.2.2.2.2.2.2.1,pw_cell_below hb hHeld.2.2.2.2.2.2.2.2.2.2.2.1,pw_cell_below hb hHeld.2.2.2.2.2.2.2.2.2.2.2.2⟩|exact ⟨pw_cell_below hb hHeld.1,pw_cell_below hb hHeld.2.1,pw_cell_below hb hHeld.2.2.1,pw_cell_below hb hHeld.2.2.2.1,pw_cell_below hb hHeld.2.2.2.2.1,pw_cell_below hb hHeld.2.2.2.2.2.1,pw_cell_below hb hHeld.2.2.2.2.2.2.1,pw_cell_below hb hHeld.2.2.2.2.2.2.2.1,pw_cell_below hb hHeld.2.2.2.2.2.2.2.2.1,pw_cell_below hb hHeld.2.2.2.2.2.2.2.2.2.1,pw_cell_below hb hHeld.2.2.2.2.2.2.2.2.2.2.1,pw_cell_below hb hHeld.2.2.2.2.2.2.2.2.2.2.2⟩) (fun hHeld=> ?_);clear hK K hb;refine norm_ (a':= ?_) ?_ ?_;rotate_left;(show Act.put _ (some 23) _=_;simp only [Act.put,List.setIfInBounds_toArray,List.set_cons_zero,List.set_cons_succ,i64_w,i32_w];rfl))
      all_goals (try (have H:=HC.out;clear HC;by_cases c6:t3=true;(case' pos=>subst c6;rw [if_pos rfl] at H;have HC:=Aside0.mk H;clear H);(case' neg=>rw [if_neg c6] at H;have q_:t3=false:=Bool.eq_false_iff.mpr c6;subst q_;clear c6;have HC:=Aside0.mk H;clear H)))
      all_goals (refine pu_ (i:=3) (N:=some 24) (r10_Right.tk 4) HT_ ?_)
      all_goals (refine pu_ (i:=4) (N:=some 25) (r10_Right.tk 5) HT_ ?_)
      all_goals (first|(refine pu_ (i:=5) (N:=some 26) (r10_Right.tk 6) HT_ ?_)|(refine pn_ (i:=5) (N:=some 26) (r10_Right.tk 6) HT_ ?_))
      all_goals (first|(refine pu_ (i:=6) (N:=some 27) (r10_Right.tk 7) HT_ ?_)|(refine pn_ (i:=6) (N:=some 27) (r10_Right.tk 7) HT_ ?_))
      all_goals (first|(refine pu_ (i:=7) (N:=some 28) (r10_Right.tk 8) HT_ ?_)|(refine pn_ (i:=7) (N:=some 28) (r10_Right.tk 8) HT_ ?_))
      all_goals (first|(refine pu_ (i:=8) (N:=some 29) (r10_Right.tk 9) HT_ ?_)|(refine pn_ (i:=8) (N:=some 29) (r10_Right.tk 9) HT_ ?_))
      all_goals (first|(refine pu_ (i:=9) (N:=some 30) (r10_Right.tk 10) HT_ ?_)|(refine pn_ (i:=9) (N:=some 30) (r10_Right.tk 10) HT_ ?_))
      all_goals (first|(refine pu_ (i:=10) (N:=some 31) (r10_Right.tk 11) HT_ ?_)|(refine pn_ (i:=10) (N:=some 31) (r10_Right.tk 11) HT_ ?_))
      all_goals (first|(refine pu_ (i:=11) (N:=some 32) (r10_Right.tk 12) HT_ ?_)|(refine pn_ (i:=11) (N:=some 32) (r10_Right.tk 12) HT_ ?_))
      all_goals (first|(refine pu_ (i:=12) (N:=some 33) (r10_Right.tk 13) HT_ ?_)|(refine pn_ (i:=12) (N:=some 33) (r10_Right.tk 13) HT_ ?_))
      all_goals (try (have H:=HC.out;clear HC;rw [if_neg N7.out] at H;have HC:=Aside0.mk H;clear H))
      all_goals (try (have H:=HC.out;clear HC;rw [if_pos C7.out,hji8,if_pos C9.out,if_pos C10.out] at H;by_cases c11:((Op.bytesLess (((rd_T79 l0 ji8).f0).toList) (((rd_T79 l0 x3_1).f0).toList))=true);(case' pos=>rw [if_pos c11] at H;have c11b0:(Op.bytesLess (((rd_T79 l0 ji8).f0).toList) (((rd_T79 l0 x3_1).f0).toList))=true:=c11;clear c11;have HC:=Aside0.mk H;clear H);(case' neg=>rw [if_neg c11] at H;have c11b0:(Op.bytesLess (((rd_T79 l0 ji8).f0).toList) (((rd_T79 l0 x3_1).f0).toList))=false:=Bool.eq_false_iff.mpr c11;clear c11;have HC:=Aside0.mk H;clear H)))
      all_goals (first|(refine tk_ (i:=13) (N:=some 34) (r10_Right.tk 14) HT_ HW_ hHeld ?_)|(refine pn_ (i:=13) (N:=some 34) (r10_Right.tk 14) HT_ ?_))
      all_goals (first|(refine pu_ (i:=14) (N:=some 35) (r10_Right.tk 15) HT_ ?_)|(refine pn_ (i:=14) (N:=some 35) (r10_Right.tk 15) HT_ ?_))
      all_goals (first|(refine tk_ (i:=15) (N:=some 36) (r10_Right.tk 16) HT_ HW_ hHeld ?_)|(refine pn_ (i:=15) (N:=some 36) (r10_Right.tk 16) HT_ ?_))
      all_goals (first|(refine pu_ (i:=16) (N:=some 37) (r10_Right.tk 17) HT_ ?_)|(refine pn_ (i:=16) (N:=some 37) (r10_Right.tk 17) HT_ ?_))
      all_goals (first|(refine pu_ (i:=17) (N:=some 38) (r10_Right.tk 18) HT_ ?_)|(refine pn_ (i:=17) (N:=some 38) (r10_Right.tk 18) HT_ ?_))
      all_goals (refine pu_ (i:=18) (N:=some 39) (r10_Right.tk 19) HT_ ?_)
      all_goals (refine pu_ (i:=19) (N:=some 40) (r10_Right.tk 20) HT_ ?_)
      all_goals (try (have H:=HC.out;obtain ⟨t5,A120,H2⟩:=Option.bind_eq_some_iff.mp H;clear H HC;have A12:=Aside0.mk A120;clear A120;have HC:=Aside0.mk H2;clear H2))
      all_goals (first|(refine pu_ (i:=20) (N:=some 41) (r10_Right.tk 21) HT_ ?_)|(refine pn_ (i:=20) (N:=some 41) (r10_Right.tk 21) HT_ ?_))
      all_goals (first|(refine tk_ (i:=21) (N:=some 42) (r10_Right.tk 22) HT_ HW_ hHeld ?_)|(refine pn_ (i:=21) (N:=some 42) (r10_Right.tk 22) HT_ ?_))
      all_goals (first|(refine on_ (i:=22) (N:=some 43) (r10_Right.tk 23) HT_ (fun K hK=> ?_);refine gs_ Try.func68 #[.agg #[.int .i64 ((rd_T79 l0 x3_1).f2.f0), .int .i64 ((rd_T79 l0 x3_1).f2.f1), .int .i64 ((rd_T79 l0 x3_1).f2.f2)]] ?_;with_reducible refine (r10_MayVec.calls _ _ _ _ _ A12.out).mono ?_;rintro e wx22 ⟨rfl,hb⟩;refine ⟨_,rfl, ?_⟩;have HBn:=am_ (below_step HBc.out hb);clear HBc;have HBc:=HBn;clear HBn;refine hK.out _ _ (by first|exact ⟨pw_cell_below hb hHeld.1,pw_cell_below hb hHeld.2.1,pw_cell_below hb hHeld.2.2.1,pw_cell_below hb hHeld.2.2.2.1,pw_cell_below hb hHeld.2.2.2.2.1,pw_cell_below hb hHeld.2.2.2.2.2.1,pw_cell_below hb hHeld.2.2.2.2.2.2.1,pw_cell_below hb hHeld.2.2.2.2.2.2.2.1,pw_cell_below hb hHeld.2.2.2.2.2.2.2.2.1,pw_cell_below hb hHeld.2.2.2.2.2.2.2.2.2.1,pw_cell_below hb hHeld.2.2.2.2.2.2.2.2.2.2.1,pw_cell_below hb hHeld.2.2.2.2.2.2.2.2.2.2.2.1,pw_cell_below hb hHeld.2.2.2.2.2.2.2.2.2.2.2.2⟩|exact ⟨pw_cell_below hb hHeld.1,pw_cell_below hb hHeld.2.1,pw_cell_below hb hHeld.2.2.1,pw_cell_below hb hHeld.2.2.2.1,pw_cell_below hb hHeld.2.2.2.2.1,pw_cell_below hb hHeld.2.2.2.2.2.1,pw_cell_below hb hHeld.2.2.2.2.2.2.1,pw_cell_below hb hHeld.2.2.2.2.2.2.2.1,pw_cell_below hb hHeld.2.2.2.2.2.2.2.2.1,pw_cell_below hb hHeld.2.2.2.2.2.2.2.2.2.1,pw_cell_below hb hHeld.2.2.2.2.2.2.2.2.2.2.1,pw_cell_below hb hHeld.2.2.2.2.2.2.2.2.2.2.2⟩) (fun hHeld=> ?_);clear hK K hb;refine norm_ (a':= ?_) ?_ ?_;rotate_left;(show Act.put _ (some 43) _=_;simp only [Act.put,List.setIfInBounds_toArray,List.set_cons_zero,List.set_cons_succ,i64_w,i32_w];rfl))|(refine pn_ (i:=22) (N:=some 43) (r10_Right.tk 23) HT_ ?_))
      all_goals (try (have H:=HC.out;clear HC;by_cases c13:t5=true;(case' pos=>subst c13;rw [if_pos rfl] at H;have HC:=Aside0.mk H;clear H);(case' neg=>rw [if_neg c13] at H;have q_:t5=false:=Bool.eq_false_iff.mpr c13;subst q_;clear c13;have HC:=Aside0.mk H;clear H)))
      all_goals (first|(refine pu_ (i:=23) (N:=some 44) (r10_Right.tk 24) HT_ ?_)|(refine pn_ (i:=23) (N:=some 44) (r10_Right.tk 24) HT_ ?_))
      all_goals (refine pu_ (i:=24) (N:=some 45) (r10_Right.tk 25) HT_ ?_)
      all_goals (refine pu_ (i:=25) (N:=some 46) (r10_Right.tk 26) HT_ ?_)
      all_goals (try (have H:=HC.out;obtain ⟨t6,A140,H2⟩:=Option.bind_eq_some_iff.mp H;clear H HC;have A14:=Aside0.mk A140;clear A140;have HC:=Aside0.mk H2;clear H2))
      all_goals (first|(refine pu_ (i:=26) (N:=some 47) (r10_Right.tk 27) HT_ ?_)|(refine pn_ (i:=26) (N:=some 47) (r10_Right.tk 27) HT_ ?_))
      all_goals (first|(refine tk_ (i:=27) (N:=some 48) (r10_Right.tk 28) HT_ HW_ hHeld ?_)|(refine pn_ (i:=27) (N:=some 48) (r10_Right.tk 28) HT_ ?_))
      all_goals (first|(refine on_ (i:=28) (N:=some 49) (r10_Right.tk 29) HT_ (fun K hK=> ?_);refine gs_ Try.func68 #[.agg #[.int .i64 ((rd_T79 l0 x3_1).f3.f0), .int .i64 ((rd_T79 l0 x3_1).f3.f1), .int .i64 ((rd_T79 l0 x3_1).f3.f2)]] ?_;with_reducible refine (r10_MayVec.calls _ _ _ _ _ A14.out).mono ?_;rintro e wx28 ⟨rfl,hb⟩;refine ⟨_,rfl, ?_⟩;have HBn:=am_ (below_step HBc.out hb);clear HBc;have HBc:=HBn;clear HBn;refine hK.out _ _ (by first|exact ⟨pw_cell_below hb hHeld.1,pw_cell_below hb hHeld.2.1,pw_cell_below hb hHeld.2.2.1,pw_cell_below hb hHeld.2.2.2.1,pw_cell_below hb hHeld.2.2.2.2.1,pw_cell_below hb hHeld.2.2.2.2.2.1,pw_cell_below hb hHeld.2.2.2.2.2.2.1,pw_cell_below hb hHeld.2.2.2.2.2.2.2.1,pw_cell_below hb hHeld.2.2.2.2.2.2.2.2.1,pw_cell_below hb hHeld.2.2.2.2.2.2.2.2.2.1,pw_cell_below hb hHeld.2.2.2.2.2.2.2.2.2.2.1,pw_cell_below hb hHeld.2.2.2.2.2.2.2.2.2.2.2.1,pw_cell_below hb hHeld.2.2.2.2.2.2.2.2.2.2.2.2⟩|exact ⟨pw_cell_below hb hHeld.1,pw_cell_below hb hHeld.2.1,pw_cell_below hb hHeld.2.2.1,pw_cell_below hb hHeld.2.2.2.1,pw_cell_below hb hHeld.2.2.2.2.1,pw_cell_below hb hHeld.2.2.2.2.2.1,pw_cell_below hb hHeld.2.2.2.2.2.2.1,pw_cell_below hb hHeld.2.2.2.2.2.2.2.1,pw_cell_below hb hHeld.2.2.2.2.2.2.2.2.1,pw_cell_below hb hHeld.2.2.2.2.2.2.2.2.2.1,pw_cell_below hb hHeld.2.2.2.2.2.2.2.2.2.2.1,pw_cell_below hb hHeld.2.2.2.2.2.2.2.2.2.2.2⟩) (fun hHeld=> ?_);clear hK K hb;refine norm_ (a':= ?_) ?_ ?_;rotate_left;(show Act.put _ (some 49) _=_;simp only [Act.put,List.setIfInBounds_toArray,List.set_cons_zero,List.set_cons_succ,i64_w,i32_w];rfl))|(refine pn_ (i:=28) (N:=some 49) (r10_Right.tk 29) HT_ ?_))
      all_goals (try (have H:=HC.out;clear HC;by_cases c15:t6=true;(case' pos=>subst c15;rw [if_pos rfl] at H;have HC:=Aside0.mk H;clear H);(case' neg=>rw [if_neg c15] at H;have q_:t6=false:=Bool.eq_false_iff.mpr c15;subst q_;clear c15;have HC:=Aside0.mk H;clear H)))
      all_goals (first|(refine pu_ (i:=29) (N:=some 50) (r10_Right.tk 30) HT_ ?_)|(refine pn_ (i:=29) (N:=some 50) (r10_Right.tk 30) HT_ ?_))
      all_goals (refine pu_ (i:=30) (N:=some 51) (r10_Right.tk 31) HT_ ?_)
      all_goals (refine pu_ (i:=31) (N:=some 52) (r10_Right.tk 32) HT_ ?_)
      all_goals (first|(refine pu_ (i:=32) (N:=some 53) (r10_Right.tk 33) HT_ ?_)|(refine pn_ (i:=32) (N:=some 53) (r10_Right.tk 33) HT_ ?_))
      all_goals (first|(refine tk_ (i:=33) (N:=some 54) (r10_Right.tk 34) HT_ HW_ hHeld ?_)|(refine pn_ (i:=33) (N:=some 54) (r10_Right.tk 34) HT_ ?_))
      all_goals (try (have H:=HC.out;clear HC;by_cases c16:((rd_T79 l0 x3_1).f1).toList=([]:List UInt8);(case' pos=>rw [if_pos c16] at H;have c16b0:(((rd_T79 l0 x3_1).f1).toList==([]:List UInt8))=true:=beq_iff_eq.mpr c16;have c16b1:(((rd_T79 l0 x3_1).f1).toList !=([]:List UInt8))=false:=bne_eq_false_iff_eq.mpr c16;have c16b2:(((rd_T79 l0 x3_1).f1).toList).isEmpty=true:=by rw [c16];rfl);(case' neg=>rw [if_neg c16] at H;have c16b0:(((rd_T79 l0 x3_1).f1).toList==([]:List UInt8))=false:=beq_eq_false_iff_ne.mpr c16;have c16b1:(((rd_T79 l0 x3_1).f1).toList !=([]:List UInt8))=true:=bne_iff_ne.mpr c16;have c16b2:(((rd_T79 l0 x3_1).f1).toList).isEmpty=false:=by simpa using c16);all_goals (clear c16;have HC:=Aside0.mk H;clear H)))
      all_goals (first|(refine pu_ (i:=34) (N:=some 55) (r10_Right.tk 35) HT_ ?_)|(refine pn_ (i:=34) (N:=some 55) (r10_Right.tk 35) HT_ ?_))
      all_goals (first|(refine pu_ (i:=35) (N:=some 56) (r10_Right.tk 36) HT_ ?_)|(refine pn_ (i:=35) (N:=some 56) (r10_Right.tk 36) HT_ ?_))
      all_goals (try (have H:=HC.out;have _hf:=c16b1;obtain ⟨t9,A220,H2⟩:=Option.bind_eq_some_iff.mp H;clear H HC;have A22:=Aside0.mk A220;clear A220;have HC:=Aside0.mk H2;clear H2))
      all_goals (first|(refine pu_ (i:=36) (N:=some 57) (r10_Right.tk 37) HT_ ?_)|(refine pn_ (i:=36) (N:=some 57) (r10_Right.tk 37) HT_ ?_))
      all_goals (first|(refine pu_ (i:=37) (N:=some 58) (r10_Right.tk 38) HT_ ?_)|(refine pn_ (i:=37) (N:=some 58) (r10_Right.tk 38) HT_ ?_))
      all_goals (first|(refine tk_ (i:=38) (N:=some 59) (r10_Right.tk 39) HT_ HW_ hHeld ?_)|(refine pn_ (i:=38) (N:=some 59) (r10_Right.tk 39) HT_ ?_))
      all_goals (first|(refine on_ (i:=39) (N:=some 60) (r10_Right.tk 40) HT_ (fun K hK=> ?_);refine gs_ Try.func52 #[.slice (some ad1) l0.length c0, .string ((rd_T79 l0 x3_1).f1)] ?_;refine (r10_Find.calls k1 _ _ l0 _ _ _ (Kd.C_below (Kd.C_below HR0.out HB.out) HBc.out) HC0.out A22.out).mono ?_;rintro e wx39 ⟨rfl,hd⟩;have hb:=hd.below;clear hd;refine ⟨_,rfl, ?_⟩;have HBn:=am_ (below_step HBc.out hb);clear HBc;have HBc:=HBn;clear HBn;refine hK.out _ _ (by first|exact ⟨pw_cell_below hb hHeld.1,pw_cell_below hb hHeld.2.1,pw_cell_below hb hHeld.2.2.1,pw_cell_below hb hHeld.2.2.2.1,pw_cell_below hb hHeld.2.2.2.2.1,pw_cell_below hb hHeld.2.2.2.2.2.1,pw_cell_below hb hHeld.2.2.2.2.2.2.1,pw_cell_below hb hHeld.2.2.2.2.2.2.2.1,pw_cell_below hb hHeld.2.2.2.2.2.2.2.2.1,pw_cell_below hb hHeld.2.2.2.2.2.2.2.2.2.1,pw_cell_below hb hHeld.2.2.2.2.2.2.2.2.2.2.1,pw_cell_below hb hHeld.2.2.2.2.2.2.2.2.2.2.2.1,pw_cell_below hb hHeld.2.2.2.2.2.2.2.2.2.2.2.2⟩|exact ⟨pw_cell_below hb hHeld.1,pw_cell_below hb hHeld.2.1,pw_cell_below hb hHeld.2.2.1,pw_cell_below hb hHeld.2.2.2.1,pw_cell_below hb hHeld.2.2.2.2.1,pw_cell_below hb hHeld.2.2.2.2.2.1,pw_cell_below hb hHeld.2.2.2.2.2.2.1,pw_cell_below hb hHeld.2.2.2.2.2.2.2.1,pw_cell_below hb hHeld.2.2.2.2.2.2.2.2.1,pw_cell_below hb hHeld.2.2.2.2.2.2.2.2.2.1,pw_cell_below hb hHeld.2.2.2.2.2.2.2.2.2.2.1,pw_cell_below hb hHeld.2.2.2.2.2.2.2.2.2.2.2⟩) (fun hHeld=> ?_);clear hK K hb;refine norm_ (a':= ?_) ?_ ?_;rotate_left;(show Act.put _ (some 60) _=_;simp only [Act.put,List.setIfInBounds_toArray,List.set_cons_zero,List.set_cons_succ,i64_w,i32_w];rfl))|(refine pn_ (i:=39) (N:=some 60) (r10_Right.tk 40) HT_ ?_))
      all_goals (try (have H:=HC.out;clear HC;by_cases c23:t9<0;(case' pos=>rw [if_pos c23] at H;have c23b0:decide (t9<0)=true:=decide_eq_true c23;clear c23;have HC:=Aside0.mk H;clear H);(case' neg=>rw [if_neg c23] at H;have c23b0:decide (t9<0)=false:=decide_eq_false c23;clear c23;have HC:=Aside0.mk H;clear H)))
      all_goals (first|(refine pu_ (i:=40) (N:=some 61) (r10_Right.tk 41) HT_ ?_)|(refine pn_ (i:=40) (N:=some 61) (r10_Right.tk 41) HT_ ?_))
      all_goals (first|(refine pu_ (i:=41) (N:=some 62) (r10_Right.tk 42) HT_ ?_)|(refine pn_ (i:=41) (N:=some 62) (r10_Right.tk 42) HT_ ?_))
      all_goals (refine pu_ (i:=42) (N:=some 63) (r10_Right.tk 43) HT_ ?_)
      all_goals (refine pu_ (i:=43) (N:=some 64) (r10_Right.tk 44) HT_ ?_)
      all_goals (first|(refine pu_ (i:=44) (N:=some 65) (r10_Right.tk 45) HT_ ?_)|(refine pn_ (i:=44) (N:=some 65) (r10_Right.tk 45) HT_ ?_))
      all_goals (first|(refine tk_ (i:=45) (N:=some 66) (r10_Right.tk 46) HT_ HW_ hHeld ?_)|(refine pn_ (i:=45) (N:=some 66) (r10_Right.tk 46) HT_ ?_))
      all_goals (try (have H:=HC.out;clear HC;by_cases c17:(rd_T79 l0 x3_1).f5<1;(case' pos=>rw [if_pos c17] at H;have c17b0:decide ((rd_T79 l0 x3_1).f5<1)=true:=decide_eq_true c17;clear c17;have HC:=Aside0.mk H;clear H);(case' neg=>rw [if_neg c17] at H;have c17b0:decide ((rd_T79 l0 x3_1).f5<1)=false:=decide_eq_false c17;clear c17;have HC:=Aside0.mk H;clear H)))
      all_goals (first|(refine pu_ (i:=46) (N:=some 67) (r10_Right.tk 47) HT_ ?_)|(refine pn_ (i:=46) (N:=some 67) (r10_Right.tk 47) HT_ ?_))
      all_goals (refine pu_ (i:=47) (N:=some 68) (r10_Right.tk 48) HT_ ?_)
      all_goals (refine pu_ (i:=48) (N:=some 69) (r10_Right.tk 49) HT_ ?_)
      all_goals (first|(refine pu_ (i:=49) (N:=some 70) (r10_Right.tk 50) HT_ ?_)|(refine pn_ (i:=49) (N:=some 70) (r10_Right.tk 50) HT_ ?_))
      all_goals (first|(refine tk_ (i:=50) (N:=some 71) (r10_Right.tk 51) HT_ HW_ hHeld ?_)|(refine pn_ (i:=50) (N:=some 71) (r10_Right.tk 51) HT_ ?_))
      all_goals (try (have H:=HC.out;clear HC;by_cases c18:(rd_T79 l0 x3_1).f5>9007199254740992;(case' pos=>rw [if_pos c18] at H;have c18b0:decide (9007199254740992<(rd_T79 l0 x3_1).f5)=true:=decide_eq_true c18;clear c18;have HC:=Aside0.mk H;clear H);(case' neg=>rw [if_neg c18] at H;have c18b0:decide (9007199254740992<(rd_T79 l0 x3_1).f5)=false:=decide_eq_false c18;clear c18;have HC:=Aside0.mk H;clear H)))
      all_goals (first|(refine pu_ (i:=51) (N:=some 72) (r10_Right.tk 52) HT_ ?_)|(refine pn_ (i:=51) (N:=some 72) (r10_Right.tk 52) HT_ ?_))
      all_goals (refine pu_ (i:=52) (N:=some 73) (r10_Right.tk 53) HT_ ?_)
      all_goals (refine pu_ (i:=53) (N:=some 74) (r10_Right.tk 54) HT_ ?_)
      all_goals (try (have H:=HC.out;obtain ⟨t7,A390,H2⟩:=Option.bind_eq_some_iff.mp H;clear H HC;have A39:=Aside0.mk A390;clear A390;have HC:=Aside0.mk H2;clear H2))
      all_goals (first|(refine pu_ (i:=54) (N:=some 75) (r10_Right.tk 55) HT_ ?_)|(refine pn_ (i:=54) (N:=some 75) (r10_Right.tk 55) HT_ ?_))
      all_goals (first|(refine tk_ (i:=55) (N:=some 76) (r10_Right.tk 56) HT_ HW_ hHeld ?_)|(refine pn_ (i:=55) (N:=some 76) (r10_Right.tk 56) HT_ ?_))
      all_goals (first|(refine pu_ (i:=56) (N:=some 77) (r10_Right.tk 57) HT_ ?_)|(refine pn_ (i:=56) (N:=some 77) (r10_Right.tk 57) HT_ ?_))
      all_goals (first|(refine tk_ (i:=57) (N:=some 78) (r10_Right.tk 58) HT_ HW_ hHeld ?_)|(refine pn_ (i:=57) (N:=some 78) (r10_Right.tk 58) HT_ ?_))
      all_goals (first|(refine on_ (i:=58) (N:=some 79) (r10_Right.tk 59) HT_ (fun K hK=> ?_);refine gs_ Try.func71 #[.agg #[.int .i64 ((rd_T79 l0 x3_1).f4.f0), .int .i64 ((rd_T79 l0 x3_1).f4.f1), .int .i64 ((rd_T79 l0 x3_1).f4.f2)], .agg #[.int .i64 ((rd_T79 l0 x3_1).f2.f0), .int .i64 ((rd_T79 l0 x3_1).f2.f1), .int .i64 ((rd_T79 l0 x3_1).f2.f2)]] ?_;with_reducible refine (r10_Le.calls _ _ _ _ _ _ _ _ A39.out).mono ?_;rintro e wx58 ⟨rfl,hb⟩;refine ⟨_,rfl, ?_⟩;have HBn:=am_ (below_step HBc.out hb);clear HBc;have HBc:=HBn;clear HBn;refine hK.out _ _ (by first|exact ⟨pw_cell_below hb hHeld.1,pw_cell_below hb hHeld.2.1,pw_cell_below hb hHeld.2.2.1,pw_cell_below hb hHeld.2.2.2.1,pw_cell_below hb hHeld.2.2.2.2.1,pw_cell_below hb hHeld.2.2.2.2.2.1,pw_cell_below hb hHeld.2.2.2.2.2.2.1,pw_cell_below hb hHeld.2.2.2.2.2.2.2.1,pw_cell_below hb hHeld.2.2.2.2.2.2.2.2.1,pw_cell_below hb hHeld.2.2.2.2.2.2.2.2.2.1,pw_cell_below hb hHeld.2.2.2.2.2.2.2.2.2.2.1,pw_cell_below hb hHeld.2.2.2.2.2.2.2.2.2.2.2.1,pw_cell_below hb hHeld.2.2.2.2.2.2.2.2.2.2.2.2⟩|exact ⟨pw_cell_below hb hHeld.1,pw_cell_below hb hHeld.2.1,pw_cell_below hb hHeld.2.2.1,pw_cell_below hb hHeld.2.2.2.1,pw_cell_below hb hHeld.2.2.2.2.1,pw_cell_below hb hHeld.2.2.2.2.2.1,pw_cell_below hb hHeld.2.2.2.2.2.2.1,pw_cell_below hb hHeld.2.2.2.2.2.2.2.1,pw_cell_below hb hHeld.2.2.2.2.2.2.2.2.1,pw_cell_below hb hHeld.2.2.2.2.2.2.2.2.2.1,pw_cell_below hb hHeld.2.2.2.2.2.2.2.2.2.2.1,pw_cell_below hb hHeld.2.2.2.2.2.2.2.2.2.2.2⟩) (fun hHeld=> ?_);clear hK K hb;refine norm_ (a':= ?_) ?_ ?_;rotate_left;(show Act.put _ (some 79) _=_;simp only [Act.put,List.setIfInBounds_toArray,List.set_cons_zero,List.set_cons_succ,i64_w,i32_w];rfl))|(refine pn_ (i:=58) (N:=some 79) (r10_Right.tk 59) HT_ ?_))
      all_goals (try (have H:=HC.out;clear HC;by_cases c40:t7=true;(case' pos=>subst c40;rw [if_pos rfl] at H;have HC:=Aside0.mk H;clear H);(case' neg=>rw [if_neg c40] at H;have q_:t7=false:=Bool.eq_false_iff.mpr c40;subst q_;clear c40;have HC:=Aside0.mk H;clear H)))
      all_goals (first|(refine pu_ (i:=59) (N:=some 80) (r10_Right.tk 60) HT_ ?_)|(refine pn_ (i:=59) (N:=some 80) (r10_Right.tk 60) HT_ ?_))
      all_goals (refine pu_ (i:=60) (N:=some 81) (r10_Right.tk 61) HT_ ?_)
      all_goals (refine pu_ (i:=61) (N:=some 82) (r10_Right.tk 62) HT_ ?_)
      all_goals (try (have H:=HC.out;obtain ⟨t8,A580,H2⟩:=Option.bind_eq_some_iff.mp H;clear H HC;have A58:=Aside0.mk A580;clear A580;have HC:=Aside0.mk H2;clear H2))
      all_goals (first|(refine pu_ (i:=62) (N:=some 83) (r10_Right.tk 63) HT_ ?_)|(refine pn_ (i:=62) (N:=some 83) (r10_Right.tk 63) HT_ ?_))
      all_goals (first|(refine tk_ (i:=63) (N:=some 84) (r10_Right.tk 64) HT_ HW_ hHeld ?_)|(refine pn_ (i:=63) (N:=some 84) (r10_Right.tk 64) HT_ ?_))
      all_goals (first|(refine on_ (i:=64) (N:=some 85) (r10_Right.tk 65) HT_ (fun K hK=> ?_);refine gs_ Try.func68 #[.agg #[.int .i64 ((rd_T79 l0 x3_1).f4.f0), .int .i64 ((rd_T79 l0 x3_1).f4.f1), .int .i64 ((rd_T79 l0 x3_1).f4.f2)]] ?_;with_reducible refine (r10_MayVec.calls _ _ _ _ _ A58.out).mono ?_;rintro e wx64 ⟨rfl,hb⟩;refine ⟨_,rfl, ?_⟩;have HBn:=am_ (below_step HBc.out hb);clear HBc;have HBc:=HBn;clear HBn;refine hK.out _ _ (by first|exact ⟨pw_cell_below hb hHeld.1,pw_cell_below hb hHeld.2.1,pw_cell_below hb hHeld.2.2.1,pw_cell_below hb hHeld.2.2.2.1,pw_cell_below hb hHeld.2.2.2.2.1,pw_cell_below hb hHeld.2.2.2.2.2.1,pw_cell_below hb hHeld.2.2.2.2.2.2.1,pw_cell_below hb hHeld.2.2.2.2.2.2.2.1,pw_cell_below hb hHeld.2.2.2.2.2.2.2.2.1,pw_cell_below hb hHeld.2.2.2.2.2.2.2.2.2.1,pw_cell_below hb hHeld.2.2.2.2.2.2.2.2.2.2.1,pw_cell_below hb hHeld.2.2.2.2.2.2.2.2.2.2.2.1,pw_cell_below hb hHeld.2.2.2.2.2.2.2.2.2.2.2.2⟩|exact ⟨pw_cell_below hb hHeld.1,pw_cell_below hb hHeld.2.1,pw_cell_below hb hHeld.2.2.1,pw_cell_below hb hHeld.2.2.2.1,pw_cell_below hb hHeld.2.2.2.2.1,pw_cell_below hb hHeld.2.2.2.2.2.1,pw_cell_below hb hHeld.2.2.2.2.2.2.1,pw_cell_below hb hHeld.2.2.2.2.2.2.2.1,pw_cell_below hb hHeld.2.2.2.2.2.2.2.2.1,pw_cell_below hb hHeld.2.2.2.2.2.2.2.2.2.1,pw_cell_below hb hHeld.2.2.2.2.2.2.2.2.2.2.1,pw_cell_below hb hHeld.2.2.2.2.2.2.2.2.2.2.2⟩) (fun hHeld=> ?_);clear hK K hb;refine norm_ (a':= ?_) ?_ ?_;rotate_left;(show Act.put _ (some 85) _=_;simp only [Act.put,List.setIfInBounds_toArray,List.set_cons_zero,List.set_cons_succ,i64_w,i32_w];rfl))|(refine pn_ (i:=64) (N:=some 85) (r10_Right.tk 65) HT_ ?_))
      all_goals (try (have H:=HC.out;clear HC;by_cases c59:t8=true;(case' pos=>subst c59;rw [if_pos rfl] at H;have HC:=Aside0.mk H;clear H);(case' neg=>rw [if_neg c59] at H;have q_:t8=false:=Bool.eq_false_iff.mpr c59;subst q_;clear c59;have HC:=Aside0.mk H;clear H)))
      all_goals (first|(refine pu_ (i:=65) (N:=some 86) (r10_Right.tk 66) HT_ ?_)|(refine pn_ (i:=65) (N:=some 86) (r10_Right.tk 66) HT_ ?_))
      all_goals (refine pu_ (i:=66) (N:=some 87) (r10_Right.tk 67) HT_ ?_)
      all_goals (refine done_ (done_of HT_.out (by kernel_rfl)) ?_;try go_wp2)
      all_goals (first|(obtain rfl:=Option.some.inj HC.out;go_wp2;go_ret;exact ⟨rfl,below_step HB.out HBc.out⟩)|(go_roundg k1;(case measure=>have:=HK1.out;omega);(case rel=>exact ⟨(wrap64 (x3_1+1)),rf_,HC,⟨by have:=HK1.out;omega⟩,⟨below_step HB.out HBc.out⟩⟩)))
     ·rw [if_neg c4] at H;exact absurd H (by simp)
    ·rw [if_neg c3] at H;have c3b0:=decide_eq_false c3;clear c3;have H':=Aside0.mk H;clear H;go_wp2
     go_loopg [5] k1 (fun kq v5 w'=> ∃(x5_2:Int),v5= .int .i64 x5_2∧Aside0 (r10_Right.l1 kq l0 x5_2=some r)∧Aside0 (kq≤k1)∧Aside0 (Below w.heap.size w w'))
     case atStart=>exact ⟨(0),rf_,H',⟨Nat.le_refl _⟩,⟨zl0_ HB⟩⟩
     case round=>
      clear H';obtain ⟨x5_2,rfl,HA,HK2,HB⟩:=hrel
      cases gk with
      |zero=>exact absurd HA.out (by simp [r10_Right.l1])
      |succ k2=>
       have H:=HA.out;clear HA;simp only [r10_Right.l1] at H;by_cases c232:x5_2<(l0.length:Int)
       ·rw [if_pos c232] at H;have c232b0:=decide_eq_true c232;clear c232;by_cases c233:0≤x5_2
        ·rw [if_pos c233] at H;replace c233:=decide_eq_true c233;have H':=Aside0.mk H;clear H;obtain ⟨p19,q19,ad19,e19,hx19_0,hx19_1,hx19_2,hx19_3,hx19_4,hx19_5,hx19_6,hx19_7,hx19_8,hx19_9,hx19_10,hx19_11⟩:=zat_ (at_T79 HR0.out x5_2);cases e19;replace hx19_0:=zx12_ HB hx19_0 hx19_1 hx19_2 hx19_3 hx19_4 hx19_5 hx19_6 hx19_7 hx19_8 hx19_9 hx19_10 hx19_11;clear hx19_1 hx19_2 hx19_3 hx19_4 hx19_5 hx19_6 hx19_7 hx19_8 hx19_9 hx19_10 hx19_11;obtain ⟨hx19_0,hx19_1,hx19_2,hx19_3,hx19_4,hx19_5,hx19_6,hx19_7,hx19_8,hx19_9,hx19_10,hx19_11⟩:=hx19_0;go_wp2_with (first|((with_reducible refine gate_dst (N:=6) rfl ?_);(try (refine gate_guard (by rfl) ?_;dsimp only));refine bx_ (N:=6) (cs:=#[.int .i64 0, .int .i64 0, .int .i64 0]) (t:=37) ?_;intro gb20 hg w234 hbox hb;have BK20:=am_ (hbox);have GE20:=am_ ((zg0_ HB hg:w.heap.size≤gb20));replace HB:=am_ (below_step (zl0_ HB) hb);clear hb hbox hg;obtain ⟨_,_,_⟩:=x3_ BK20;obtain ⟨_,_,_⟩:=ff3_ BK20))
         go_loopg [7] k2 (fun kq v7 w'=> ∃(x7_3:Int) (x21000_3:Int) (x21001_3:Int) (x21002_3:Int),v7= .int .i64 x7_3∧Aside0 (r10_Right.l2 kq l0 x5_2 x7_3 x21000_3 x21001_3 x21002_3=some r)∧Aside0 (kq≤k2)∧Aside0 (w'.heap[gb20]?=some (.cells #[.int .i64 x21000_3, .int .i64 x21001_3, .int .i64 x21002_3] 37 (0,0)))∧Aside0 (Below w.heap.size w w'))
         case atStart=>exact ⟨(0),((rd_T79 l0 x5_2).f3.f0),((rd_T79 l0 x5_2).f3.f1),((rd_T79 l0 x5_2).f3.f2),rf_,H',⟨Nat.le_refl _⟩,⟨zw_ BK20⟩,⟨zl1_ HB GE20⟩⟩
         case round=>
          clear H';obtain ⟨x7_3,x21000_3,x21001_3,x21002_3,rfl,HA,HK3,BK20,HB⟩:=hrel
          cases gk with
          |zero=>exact absurd HA.out (by simp [r10_Right.l2])
          |succ k3=>
           have H:=HA.out;clear HA;simp only [r10_Right.l2] at H;by_cases c236:x7_3<(l0.length:Int)
           ·rw [if_pos c236] at H;have c236b0:=decide_eq_true c236;clear c236;by_cases c237:0≤x7_3
            ·rw [if_pos c237] at H;replace c237:=decide_eq_true c237;by_cases c238:0≤x5_2
             ·rw [if_pos c238] at H;replace c238:=decide_eq_true c238;by_cases c239:x5_2<(l0.length:Int)
              ·rw [if_pos c239] at H;replace c239:=decide_eq_true c239;by_cases c240:((rd_T79 l0 x7_3).f1).toList=((rd_T79 l0 x5_2).f0).toList
               ·rw [if_pos c240] at H;have c240b0:=beq_iff_eq.mpr c240;have c240b1:=bne_eq_false_iff_eq.mpr c240;clear c240;replace H:=zbd_ H;obtain ⟨⟨t24,t25,t26⟩,A241,H⟩:=H;try dsimp only at H
                have H':=Aside0.mk H;clear H;try go_wp2
                replace BK20:=am_ (blk_drew BK20.out);replace HB:=am_ (below_drew1 HB.out);have p21:0≤(x7_3:Int):=of_decide_eq_true zq_;have q21:x7_3<(l0.length:Int):=of_decide_eq_true zq_;obtain ⟨ad21,e21,hx21_0,hx21_1,hx21_2,hx21_3,hx21_4,hx21_5,hx21_6,hx21_7,hx21_8,hx21_9,hx21_10,hx21_11⟩:=at_T79 HR0.out x7_3 p21 q21;have hw21_10:=hx21_10;have hw21_9:=hx21_9;have hw21_8:=hx21_8;have hw21_1:=hx21_1;obtain rfl:ad19=ad21:=(by injection e21);replace hx21_0:=zx12_ HB hx21_0 hx21_1 hx21_2 hx21_3 hx21_4 hx21_5 hx21_6 hx21_7 hx21_8 hx21_9 hx21_10 hx21_11;clear hx21_1 hx21_2 hx21_3 hx21_4 hx21_5 hx21_6 hx21_7 hx21_8 hx21_9 hx21_10 hx21_11;obtain ⟨hx21_0,hx21_1,hx21_2,hx21_3,hx21_4,hx21_5,hx21_6,hx21_7,hx21_8,hx21_9,hx21_10,hx21_11⟩:=hx21_0;replace p21:=eq_true p21;replace q21:=eq_true q21;have p22:0≤(x5_2:Int):=of_decide_eq_true zq_;have q22:x5_2<(l0.length:Int):=of_decide_eq_true zq_;obtain ⟨ad22,e22,hx22_0,hx22_1,hx22_2,hx22_3,hx22_4,hx22_5,hx22_6,hx22_7,hx22_8,hx22_9,hx22_10,hx22_11⟩:=at_T79 HR0.out x5_2 p22 q22;have hw22_10:=hx22_10;have hw22_9:=hx22_9;have hw22_8:=hx22_8;have hw22_0:=hx22_0;obtain rfl:ad19=ad22:=(by injection e22);replace hx22_0:=zx12_ HB hx22_0 hx22_1 hx22_2 hx22_3 hx22_4 hx22_5 hx22_6 hx22_7 hx22_8 hx22_9 hx22_10 hx22_11;clear hx22_1 hx22_2 hx22_3 hx22_4 hx22_5 hx22_6 hx22_7 hx22_8 hx22_9 hx22_10 hx22_11;obtain ⟨hx22_0,hx22_1,hx22_2,hx22_3,hx22_4,hx22_5,hx22_6,hx22_7,hx22_8,hx22_9,hx22_10,hx22_11⟩:=hx22_0;replace p22:=eq_true p22;replace q22:=eq_true q22
                refine start_ (n:=11) (S:=fun w'=>w'.cell? ⟨(ad19.add ((x7_3).toNat*12)).block,(ad19.add ((x7_3).toNat*12)).off+1,none⟩=some (.string ((rd_T79 l0 x7_3).f1))∧w'.cell? ⟨(ad19.add ((x7_3).toNat*12)).block,(ad19.add ((x7_3).toNat*12)).off+8,none⟩=some (.int .i64 ((rd_T79 l0 x7_3).f4.f0))∧w'.cell? ⟨(ad19.add ((x7_3).toNat*12)).block,(ad19.add ((x7_3).toNat*12)).off+9,none⟩=some (.int .i64 ((rd_T79 l0 x7_3).f4.f1))∧w'.cell? ⟨(ad19.add ((x7_3).toNat*12)).block,(ad19.add ((x7_3).toNat*12)).off+10,none⟩=some (.int .i64 ((rd_T79 l0 x7_3).f4.f2))∧w'.cell? (ad19.add ((x5_2).toNat*12))=some (.string ((rd_T79 l0 x5_2).f0))∧w'.cell? ⟨(ad19.add ((x5_2).toNat*12)).block,(ad19.add ((x5_2).toNat*12)).off+8,none⟩=some (.int .i64 ((rd_T79 l0 x5_2).f4.f0))∧w'.cell? ⟨(ad19.add ((x5_2).toNat*12)).block,(ad19.add ((x5_2).toNat*12)).off+9,none⟩=some (.int .i64 ((rd_T79 l0 x5_2).f4.f1))∧w'.cell? ⟨(ad19.add ((x5_2).toNat*12)).block,(ad19.add ((x5_2).toNat*12)).off+10,none⟩=some (.int .i64 ((rd_T79 l0 x5_2).f4.f2))) (ds:=[]) (bt_ 11 0) (by kernel_rfl) rfl rfl ⟨(zx_ HB hw21_1:),(zx_ HB hw21_8:),(zx_ HB hw21_9:),(zx_ HB hw21_10:),(zx_ HB hw22_0:),(zx_ HB hw22_8:),(zx_ HB hw22_9:),(zx_ HB hw22_10:)⟩ (fun hHeld=> ?_);refine with_tabW r10_Right.tab16 r10_Right.bits16 (fun HT_ HW_=> ?_)
                generalize wr.drew=w242 at BK20 HB hx21_0 hx21_1 hx21_10 hx21_11 hx21_2 hx21_3 hx21_4 hx21_5 hx21_6 hx21_7 hx21_8 hx21_9 hx22_0 hx22_1 hx22_10 hx22_11 hx22_2 hx22_3 hx22_4 hx22_5 hx22_6 hx22_7 hx22_8 hx22_9 hHeld ⊢;refine ru_ 0 HT_ ?_;refine ru_ 1 HT_ ?_;refine ru_ 2 HT_ ?_;refine ru_ 3 HT_ ?_;refine ru_ 5 HT_ ?_;refine ru_ 6 HT_ ?_;refine ru_ 7 HT_ ?_;refine ru_ 8 HT_ ?_;refine rk_ 4 HT_ HW_ hHeld ?_;refine rk_ 9 HT_ HW_ hHeld ?_;refine ru_ 10 HT_ ?_;refine done_ (done_of HT_.out (by kernel_rfl)) ?_;try go_wp2
                replace BK20:=am_ (blk_drew BK20.out);replace HB:=am_ (below_drew1 HB.out);have p23:0≤(x7_3:Int):=of_decide_eq_true zq_;have q23:x7_3<(l0.length:Int):=of_decide_eq_true zq_;obtain ⟨ad23,e23,hx23_0,hx23_1,hx23_2,hx23_3,hx23_4,hx23_5,hx23_6,hx23_7,hx23_8,hx23_9,hx23_10,hx23_11⟩:=at_T79 HR0.out x7_3 p23 q23;have hw23_10:=hx23_10;have hw23_9:=hx23_9;have hw23_8:=hx23_8;have hw23_1:=hx23_1;obtain rfl:ad19=ad23:=(by injection e23);replace hx23_0:=zx12_ HB hx23_0 hx23_1 hx23_2 hx23_3 hx23_4 hx23_5 hx23_6 hx23_7 hx23_8 hx23_9 hx23_10 hx23_11;clear hx23_1 hx23_2 hx23_3 hx23_4 hx23_5 hx23_6 hx23_7 hx23_8 hx23_9 hx23_10 hx23_11;obtain ⟨hx23_0,hx23_1,hx23_2,hx23_3,hx23_4,hx23_5,hx23_6,hx23_7,hx23_8,hx23_9,hx23_10,hx23_11⟩:=hx23_0;replace p23:=eq_true p23;replace q23:=eq_true q23
                refine start_ (n:=8) (S:=fun w'=>w'.cell? ⟨gb20,0,none⟩=some (.int .i64 x21000_3)∧w'.cell? ⟨gb20,1,none⟩=some (.int .i64 x21001_3)∧w'.cell? ⟨gb20,2,none⟩=some (.int .i64 x21002_3)∧w'.cell? ⟨(ad19.add ((x7_3).toNat*12)).block,(ad19.add ((x7_3).toNat*12)).off+1,none⟩=some (.string ((rd_T79 l0 x7_3).f1))∧w'.cell? ⟨(ad19.add ((x7_3).toNat*12)).block,(ad19.add ((x7_3).toNat*12)).off+8,none⟩=some (.int .i64 ((rd_T79 l0 x7_3).f4.f0))∧w'.cell? ⟨(ad19.add ((x7_3).toNat*12)).block,(ad19.add ((x7_3).toNat*12)).off+9,none⟩=some (.int .i64 ((rd_T79 l0 x7_3).f4.f1))∧w'.cell? ⟨(ad19.add ((x7_3).toNat*12)).block,(ad19.add ((x7_3).toNat*12)).off+10,none⟩=some (.int .i64 ((rd_T79 l0 x7_3).f4.f2))) (ds:=[7]) (bt_ 8 0) (by kernel_rfl) rfl rfl ⟨(blk_cell BK20.out 0).trans rfl,(blk_cell BK20.out 1).trans rfl,(blk_cell BK20.out 2).trans rfl,(zx_ HB hw23_1:),(zx_ HB hw23_8:),(zx_ HB hw23_9:),(zx_ HB hw23_10:)⟩ (fun hHeld=> ?_);refine with_tabW r10_Right.tab17 r10_Right.bits17 (fun HT_ HW_=> ?_);generalize w242.drew=w243 at BK20 HB hx23_0 hx23_1 hx23_10 hx23_11 hx23_2 hx23_3 hx23_4 hx23_5 hx23_6 hx23_7 hx23_8 hx23_9 hHeld ⊢;refine ru_ 1 HT_ ?_;refine ru_ 2 HT_ ?_;refine ru_ 3 HT_ ?_;refine ru_ 4 HT_ ?_;refine rk_ 0 HT_ HW_ hHeld ?_;refine rk_ 5 HT_ HW_ hHeld ?_;refine on_ (i:=6) (N:=some 122) (bt_ 8 127) HT_ (fun K hK=> ?_)
                refine gs_ Try.func70 #[.agg #[.int .i64 x21000_3, .int .i64 x21001_3, .int .i64 x21002_3], .agg #[.int .i64 ((rd_T79 l0 x7_3).f4.f0), .int .i64 ((rd_T79 l0 x7_3).f4.f1), .int .i64 ((rd_T79 l0 x7_3).f4.f2)]] ?_
                with_reducible refine (r10_Add.calls x21000_3 x21001_3 x21002_3 ((rd_T79 l0 x7_3).f4.f0) ((rd_T79 l0 x7_3).f4.f1) ((rd_T79 l0 x7_3).f4.f2) t24 t25 t26 _ A241.out).mono ?_
                rintro e w244 ⟨rfl,hb⟩;refine ⟨_,rfl, ?_⟩;replace BK20:=bb_ BK20 hb;replace HB:=am_ (below_step (zl1_ HB GE20) hb);(try clear hb);refine hK.out _ _ ⟨(blk_cell BK20.out 0).trans rfl,(blk_cell BK20.out 1).trans rfl,(blk_cell BK20.out 2).trans rfl,(zx_ HB hw23_1:),(zx_ HB hw23_8:),(zx_ HB hw23_9:),(zx_ HB hw23_10:)⟩ (fun hHeld=> ?_);clear hK K;refine no_ (N:=some 122) ?_;refine last_ (i:=7) (N:=none) (bt_ 8 255) rfl rfl (one_of HT_.out (by kernel_rfl)) (by decide) (fun K hK=> ?_);have hs245:w244.cell? ⟨gb20,0,none⟩=some (.int .i64 x21000_3):=zz_ BK20 0;have hfs245:=blk_frozen BK20.out 0;have hs246:w244.cell? ⟨gb20,1,none⟩=some (.int .i64 x21001_3):=zz_ BK20 1;have hfs246:=blk_frozen BK20.out 1;have hs247:w244.cell? ⟨gb20,2,none⟩=some (.int .i64 x21002_3):=zz_ BK20 2;have hfs247:=blk_frozen BK20.out 2;refine skip_ (w1:= ?_) (by rfl) rfl ?_ ?_;rotate_left
                ·go_simp
                 rfl
                refine hK.out _ _ ?_;clear hK K;refine done_ (done_of HT_.out (by kernel_rfl)) ?_;try go_wp2
                go_roundg k3
                case measure=>have:=HK1.out;have:=HK2.out;have:=HK3.out;omega
                case rel=>exact ⟨(wrap64 (x7_3+1)),(t24),(t25),(t26),rf_,H',⟨by have:=HK1.out;have:=HK2.out;have:=HK3.out;omega⟩,⟨zw_ BK20⟩,⟨zl1_ HB GE20⟩⟩
               ·rw [if_neg c240] at H;have c240b0:=beq_eq_false_iff_ne.mpr c240;have c240b1:=bne_iff_ne.mpr c240;have H':=Aside0.mk H;clear H;try go_wp2
                replace BK20:=am_ (blk_drew BK20.out);replace HB:=am_ (below_drew1 HB.out);have p21:0≤(x7_3:Int):=of_decide_eq_true zq_;have q21:x7_3<(l0.length:Int):=of_decide_eq_true zq_;obtain ⟨ad21,e21,hx21_0,hx21_1,hx21_2,hx21_3,hx21_4,hx21_5,hx21_6,hx21_7,hx21_8,hx21_9,hx21_10,hx21_11⟩:=at_T79 HR0.out x7_3 p21 q21;have hw21_10:=hx21_10;have hw21_9:=hx21_9;have hw21_8:=hx21_8;have hw21_1:=hx21_1;obtain rfl:ad19=ad21:=(by injection e21);replace hx21_0:=zx12_ HB hx21_0 hx21_1 hx21_2 hx21_3 hx21_4 hx21_5 hx21_6 hx21_7 hx21_8 hx21_9 hx21_10 hx21_11;clear hx21_1 hx21_2 hx21_3 hx21_4 hx21_5 hx21_6 hx21_7 hx21_8 hx21_9 hx21_10 hx21_11;obtain ⟨hx21_0,hx21_1,hx21_2,hx21_3,hx21_4,hx21_5,hx21_6,hx21_7,hx21_8,hx21_9,hx21_10,hx21_11⟩:=hx21_0;replace p21:=eq_true p21;replace q21:=eq_true q21;have p22:0≤(x5_2:Int):=of_decide_eq_true zq_;have q22:x5_2<(l0.length:Int):=of_decide_eq_true zq_;obtain ⟨ad22,e22,hx22_0,hx22_1,hx22_2,hx22_3,hx22_4,hx22_5,hx22_6,hx22_7,hx22_8,hx22_9,hx22_10,hx22_11⟩:=at_T79 HR0.out x5_2 p22 q22;have hw22_10:=hx22_10;have hw22_9:=hx22_9;have hw22_8:=hx22_8;have hw22_0:=hx22_0;obtain rfl:ad19=ad22:=(by injection e22);replace hx22_0:=zx12_ HB hx22_0 hx22_1 hx22_2 hx22_3 hx22_4 hx22_5 hx22_6 hx22_7 hx22_8 hx22_9 hx22_10 hx22_11;clear hx22_1 hx22_2 hx22_3 hx22_4 hx22_5 hx22_6 hx22_7 hx22_8 hx22_9 hx22_10 hx22_11;obtain ⟨hx22_0,hx22_1,hx22_2,hx22_3,hx22_4,hx22_5,hx22_6,hx22_7,hx22_8,hx22_9,hx22_10,hx22_11⟩:=hx22_0;replace p22:=eq_true p22;replace q22:=eq_true q22
                refine start_ (n:=11) (S:=fun w'=>w'.cell? ⟨(ad19.add ((x7_3).toNat*12)).block,(ad19.add ((x7_3).toNat*12)).off+1,none⟩=some (.string ((rd_T79 l0 x7_3).f1))∧w'.cell? (ad19.add ((x5_2).toNat*12))=some (.string ((rd_T79 l0 x5_2).f0))∧w'.cell? ⟨(ad19.add ((x5_2).toNat*12)).block,(ad19.add ((x5_2).toNat*12)).off+8,none⟩=some (.int .i64 ((rd_T79 l0 x5_2).f4.f0))∧w'.cell? ⟨(ad19.add ((x5_2).toNat*12)).block,(ad19.add ((x5_2).toNat*12)).off+9,none⟩=some (.int .i64 ((rd_T79 l0 x5_2).f4.f1))∧w'.cell? ⟨(ad19.add ((x5_2).toNat*12)).block,(ad19.add ((x5_2).toNat*12)).off+10,none⟩=some (.int .i64 ((rd_T79 l0 x5_2).f4.f2))) (ds:=[]) (bt_ 11 0) (by kernel_rfl) rfl rfl ⟨(zx_ HB hw21_1:),(zx_ HB hw22_0:),(zx_ HB hw22_8:),(zx_ HB hw22_9:),(zx_ HB hw22_10:)⟩ (fun hHeld=> ?_);refine with_tabW r10_Right.tab16 r10_Right.bits16 (fun HT_ HW_=> ?_);generalize wr.drew=w248 at BK20 HB hx21_0 hx21_1 hx21_10 hx21_11 hx21_2 hx21_3 hx21_4 hx21_5 hx21_6 hx21_7 hx21_8 hx21_9 hx22_0 hx22_1 hx22_10 hx22_11 hx22_2 hx22_3 hx22_4 hx22_5 hx22_6 hx22_7 hx22_8 hx22_9 hHeld ⊢;refine ru_ 0 HT_ ?_;refine ru_ 1 HT_ ?_;refine ru_ 2 HT_ ?_;refine ru_ 3 HT_ ?_;refine ru_ 5 HT_ ?_;refine ru_ 6 HT_ ?_;refine ru_ 7 HT_ ?_;refine ru_ 8 HT_ ?_;refine rk_ 4 HT_ HW_ hHeld ?_;refine rk_ 9 HT_ HW_ hHeld ?_;refine ru_ 10 HT_ ?_;refine done_ (done_of HT_.out (by kernel_rfl)) ?_;try go_wp2
                go_roundg k3
                case measure=>have:=HK1.out;have:=HK2.out;have:=HK3.out;omega
                case rel=>exact ⟨(wrap64 (x7_3+1)),(x21000_3),(x21001_3),(x21002_3),rf_,H',⟨by have:=HK1.out;have:=HK2.out;have:=HK3.out;omega⟩,am_ (zb_ BK20),⟨zl1_ HB GE20⟩⟩
              ·rw [if_neg c239] at H;exact absurd H (by simp)
             ·rw [if_neg c238] at H;exact absurd H (by simp)
            ·rw [if_neg c237] at H;exact absurd H (by simp)
           ·rw [if_neg c236] at H;have c236b0:=decide_eq_false c236;clear c236;by_cases c249:0≤x5_2
            ·rw [if_pos c249] at H;replace c249:=decide_eq_true c249;by_cases c250:x5_2<(l0.length:Int)
             ·rw [if_pos c250] at H;replace c250:=decide_eq_true c250;by_cases c251:(!(x21000_3==((rd_T79 l0 x5_2).f4.f0))||(!(x21001_3==((rd_T79 l0 x5_2).f4.f1))||(!(x21002_3==((rd_T79 l0 x5_2).f4.f2)))))=true
              ·rw [if_pos c251] at H;have c251b0:(!(x21000_3==((rd_T79 l0 x5_2).f4.f0))||(!(x21001_3==((rd_T79 l0 x5_2).f4.f1))||(!(x21002_3==((rd_T79 l0 x5_2).f4.f2)))))=true:=c251;clear c251;obtain rfl:=Option.some.inj H;try go_wp2
               replace BK20:=am_ (blk_drew BK20.out);replace HB:=am_ (below_drew1 HB.out);have p27:0≤(x5_2:Int):=of_decide_eq_true zq_;have q27:x5_2<(l0.length:Int):=of_decide_eq_true zq_;obtain ⟨ad27,e27,hx27_0,hx27_1,hx27_2,hx27_3,hx27_4,hx27_5,hx27_6,hx27_7,hx27_8,hx27_9,hx27_10,hx27_11⟩:=at_T79 HR0.out x5_2 p27 q27;have hw27_10:=hx27_10;have hw27_9:=hx27_9;have hw27_8:=hx27_8;have hw27_0:=hx27_0;obtain rfl:ad19=ad27:=(by injection e27);replace hx27_0:=zx12_ HB hx27_0 hx27_1 hx27_2 hx27_3 hx27_4 hx27_5 hx27_6 hx27_7 hx27_8 hx27_9 hx27_10 hx27_11;clear hx27_1 hx27_2 hx27_3 hx27_4 hx27_5 hx27_6 hx27_7 hx27_8 hx27_9 hx27_10 hx27_11;obtain ⟨hx27_0,hx27_1,hx27_2,hx27_3,hx27_4,hx27_5,hx27_6,hx27_7,hx27_8,hx27_9,hx27_10,hx27_11⟩:=hx27_0;replace p27:=eq_true p27;replace q27:=eq_true q27
               refine start_ (n:=20) (S:=fun w'=>w'.cell? ⟨gb20,0,none⟩=some (.int .i64 x21000_3)∧w'.cell? ⟨gb20,1,none⟩=some (.int .i64 x21001_3)∧w'.cell? ⟨gb20,2,none⟩=some (.int .i64 x21002_3)∧w'.cell? (ad19.add ((x5_2).toNat*12))=some (.string ((rd_T79 l0 x5_2).f0))∧w'.cell? ⟨(ad19.add ((x5_2).toNat*12)).block,(ad19.add ((x5_2).toNat*12)).off+8,none⟩=some (.int .i64 ((rd_T79 l0 x5_2).f4.f0))∧w'.cell? ⟨(ad19.add ((x5_2).toNat*12)).block,(ad19.add ((x5_2).toNat*12)).off+9,none⟩=some (.int .i64 ((rd_T79 l0 x5_2).f4.f1))∧w'.cell? ⟨(ad19.add ((x5_2).toNat*12)).block,(ad19.add ((x5_2).toNat*12)).off+10,none⟩=some (.int .i64 ((rd_T79 l0 x5_2).f4.f2))) (ds:=[]) (bt_ 20 0) (by kernel_rfl) rfl rfl ⟨(blk_cell BK20.out 0).trans rfl,(blk_cell BK20.out 1).trans rfl,(blk_cell BK20.out 2).trans rfl,(zx_ HB hw27_0:),(zx_ HB hw27_8:),(zx_ HB hw27_9:),(zx_ HB hw27_10:)⟩ (fun hHeld=> ?_);refine with_tabW r10_Right.tab18 r10_Right.bits18 (fun HT_ HW_=> ?_);generalize wr.drew=w252 at BK20 HB hx27_0 hx27_1 hx27_10 hx27_11 hx27_2 hx27_3 hx27_4 hx27_5 hx27_6 hx27_7 hx27_8 hx27_9 hHeld ⊢;refine ru_ 1 HT_ ?_;refine ru_ 2 HT_ ?_;refine ru_ 3 HT_ ?_;refine ru_ 4 HT_ ?_;refine rk_ 0 HT_ HW_ hHeld ?_;refine rk_ 5 HT_ HW_ hHeld ?_;refine ru_ 6 HT_ ?_;refine ru_ 7 HT_ ?_;refine rn_ 8 HT_ ?_;refine rn_ 9 HT_ ?_;refine rn_ 10 HT_ ?_;refine rn_ 11 HT_ ?_;refine rn_ 12 HT_ ?_;refine rn_ 13 HT_ ?_;refine rn_ 14 HT_ ?_;refine rn_ 15 HT_ ?_;refine rn_ 16 HT_ ?_;refine rn_ 17 HT_ ?_;refine rn_ 18 HT_ ?_
               refine ru_ 19 HT_ ?_;refine done_ (done_of HT_.out (by kernel_rfl)) ?_;try go_wp2
               go_ret
               exact ⟨er_,zl1_ HB GE20⟩
              ·rw [if_neg c251] at H;have c251b0:(!(x21000_3==((rd_T79 l0 x5_2).f4.f0))||(!(x21001_3==((rd_T79 l0 x5_2).f4.f1))||(!(x21002_3==((rd_T79 l0 x5_2).f4.f2)))))=false:=by simpa using c251
               clear c251;replace H:=zbd_ H;obtain ⟨t29,A253,H⟩:=H;try dsimp only at H
               by_cases c254:(t29.length:Int)>(l0.length:Int)
               ·rw [if_pos c254] at H;have c254b0:decide ((l0.length:Int)<(t29.length:Int))=true:=decide_eq_true c254;have c254b1:decide (l0.length<t29.length)=true:=decide_eq_true (Int.ofNat_lt.mp c254);clear c254;obtain rfl:=Option.some.inj H;try go_wp2
                replace BK20:=am_ (blk_drew BK20.out);replace HB:=am_ (below_drew1 HB.out);have p27:0≤(x5_2:Int):=of_decide_eq_true zq_;have q27:x5_2<(l0.length:Int):=of_decide_eq_true zq_;obtain ⟨ad27,e27,hx27_0,hx27_1,hx27_2,hx27_3,hx27_4,hx27_5,hx27_6,hx27_7,hx27_8,hx27_9,hx27_10,hx27_11⟩:=at_T79 HR0.out x5_2 p27 q27;have hw27_10:=hx27_10;have hw27_9:=hx27_9;have hw27_8:=hx27_8;have hw27_0:=hx27_0;obtain rfl:ad19=ad27:=(by injection e27);replace hx27_0:=zx12_ HB hx27_0 hx27_1 hx27_2 hx27_3 hx27_4 hx27_5 hx27_6 hx27_7 hx27_8 hx27_9 hx27_10 hx27_11;clear hx27_1 hx27_2 hx27_3 hx27_4 hx27_5 hx27_6 hx27_7 hx27_8 hx27_9 hx27_10 hx27_11;obtain ⟨hx27_0,hx27_1,hx27_2,hx27_3,hx27_4,hx27_5,hx27_6,hx27_7,hx27_8,hx27_9,hx27_10,hx27_11⟩:=hx27_0;replace p27:=eq_true p27;replace q27:=eq_true q27;have p28:0≤(x5_2:Int):=of_decide_eq_true zq_;have q28:x5_2<(l0.length:Int):=of_decide_eq_true zq_;obtain ⟨ad28,e28,hx28_0,hx28_1,hx28_2,hx28_3,hx28_4,hx28_5,hx28_6,hx28_7,hx28_8,hx28_9,hx28_10,hx28_11⟩:=at_T79 HR0.out x5_2 p28 q28;obtain rfl:ad19=ad28:=(by injection e28);replace hx28_0:=zx12_ HB hx28_0 hx28_1 hx28_2 hx28_3 hx28_4 hx28_5 hx28_6 hx28_7 hx28_8 hx28_9 hx28_10 hx28_11;clear hx28_1 hx28_2 hx28_3 hx28_4 hx28_5 hx28_6 hx28_7 hx28_8 hx28_9 hx28_10 hx28_11;obtain ⟨hx28_0,hx28_1,hx28_2,hx28_3,hx28_4,hx28_5,hx28_6,hx28_7,hx28_8,hx28_9,hx28_10,hx28_11⟩:=hx28_0;replace p28:=eq_true p28;replace q28:=eq_true q28
                refine start_ (n:=20) (S:=fun w'=>w'.cell? ⟨gb20,0,none⟩=some (.int .i64 x21000_3)∧w'.cell? ⟨gb20,1,none⟩=some (.int .i64 x21001_3)∧w'.cell? ⟨gb20,2,none⟩=some (.int .i64 x21002_3)∧w'.cell? (ad19.add ((x5_2).toNat*12))=some (.string ((rd_T79 l0 x5_2).f0))∧w'.cell? ⟨(ad19.add ((x5_2).toNat*12)).block,(ad19.add ((x5_2).toNat*12)).off+8,none⟩=some (.int .i64 ((rd_T79 l0 x5_2).f4.f0))∧w'.cell? ⟨(ad19.add ((x5_2).toNat*12)).block,(ad19.add ((x5_2).toNat*12)).off+9,none⟩=some (.int .i64 ((rd_T79 l0 x5_2).f4.f1))∧w'.cell? ⟨(ad19.add ((x5_2).toNat*12)).block,(ad19.add ((x5_2).toNat*12)).off+10,none⟩=some (.int .i64 ((rd_T79 l0 x5_2).f4.f2))) (ds:=[]) (bt_ 20 0) (by kernel_rfl) rfl rfl ⟨(blk_cell BK20.out 0).trans rfl,(blk_cell BK20.out 1).trans rfl,(blk_cell BK20.out 2).trans rfl,(zx_ HB hw27_0:),(zx_ HB hw27_8:),(zx_ HB hw27_9:),(zx_ HB hw27_10:)⟩ (fun hHeld=> ?_);refine with_tabW r10_Right.tab18 r10_Right.bits18 (fun HT_ HW_=> ?_);generalize wr.drew=w255 at BK20 HB hx27_0 hx27_1 hx27_10 hx27_11 hx27_2 hx27_3 hx27_4 hx27_5 hx27_6 hx27_7 hx27_8 hx27_9 hx28_0 hx28_1 hx28_10 hx28_11 hx28_2 hx28_3 hx28_4 hx28_5 hx28_6 hx28_7 hx28_8 hx28_9 hHeld ⊢;refine ru_ 1 HT_ ?_;refine ru_ 2 HT_ ?_;refine ru_ 3 HT_ ?_;refine ru_ 4 HT_ ?_;refine rk_ 0 HT_ HW_ hHeld ?_;refine rk_ 5 HT_ HW_ hHeld ?_;refine ru_ 6 HT_ ?_;refine ru_ 7 HT_ ?_;refine ru_ 8 HT_ ?_;refine ru_ 9 HT_ ?_;refine ru_ 10 HT_ ?_;refine ru_ 11 HT_ ?_;refine ru_ 12 HT_ ?_;refine ru_ 16 HT_ ?_;refine ru_ 17 HT_ ?_
                refine rk_ 13 HT_ HW_ hHeld ?_;refine on_ (i:=14) (N:=some 137) (bt_ 20 229375) HT_ (fun K hK=> ?_);refine gs_ Try.func55 #[.slice (some ad19) l0.length c0, .string ((rd_T79 l0 x5_2).f0)] ?_
                with_reducible refine (r10_Up.calls k3 _ _ l0 ((rd_T79 l0 x5_2).f0) t29 _ ?side1 ?side2 A253.out).mono ?_
                (case side1=>exact zc_ (Kd.C_below HR0.out HB.out));(case side2=>exact HC0.out);rintro e w256 ⟨v30,rfl,ho0,hb⟩;refine ⟨_,rfl, ?_⟩;have HO31:=am_ (Kd.R_lower ho0 (below_size (zl1_ HB GE20)));replace BK20:=bb_ BK20 hb;replace HB:=am_ (below_step (zl1_ HB GE20) hb);(try clear hb);(try clear ho0);obtain ⟨Ao257,co257,eo257⟩:=Kd.R_slice HO31.out;(first|subst eo257|cases eo257);refine hK.out _ _ ⟨(blk_cell BK20.out 0).trans rfl,(blk_cell BK20.out 1).trans rfl,(blk_cell BK20.out 2).trans rfl,(zx_ HB hw27_0:),(zx_ HB hw27_8:),(zx_ HB hw27_9:),(zx_ HB hw27_10:)⟩ (fun hHeld=> ?_);clear hK K;refine no_ (N:=some 137) ?_;refine ru_ 15 HT_ ?_;refine ru_ 18 HT_ ?_;refine ru_ 19 HT_ ?_;refine done_ (done_of HT_.out (by kernel_rfl)) ?_;try go_wp2
                go_ret
                exact ⟨er_,zl1_ HB GE20⟩
               ·rw [if_neg c254] at H;have c254b0:decide ((l0.length:Int)<(t29.length:Int))=false:=decide_eq_false c254;have c254b1:decide (l0.length<t29.length)=false:=decide_eq_false (fun h=>c254 (Int.ofNat_lt.mpr h));clear c254;have H':=Aside0.mk H;clear H;try go_wp2
                replace BK20:=am_ (blk_drew BK20.out);replace HB:=am_ (below_drew1 HB.out);have p27:0≤(x5_2:Int):=of_decide_eq_true zq_;have q27:x5_2<(l0.length:Int):=of_decide_eq_true zq_;obtain ⟨ad27,e27,hx27_0,hx27_1,hx27_2,hx27_3,hx27_4,hx27_5,hx27_6,hx27_7,hx27_8,hx27_9,hx27_10,hx27_11⟩:=at_T79 HR0.out x5_2 p27 q27;have hw27_10:=hx27_10;have hw27_9:=hx27_9;have hw27_8:=hx27_8;have hw27_0:=hx27_0;obtain rfl:ad19=ad27:=(by injection e27);replace hx27_0:=zx12_ HB hx27_0 hx27_1 hx27_2 hx27_3 hx27_4 hx27_5 hx27_6 hx27_7 hx27_8 hx27_9 hx27_10 hx27_11;clear hx27_1 hx27_2 hx27_3 hx27_4 hx27_5 hx27_6 hx27_7 hx27_8 hx27_9 hx27_10 hx27_11;obtain ⟨hx27_0,hx27_1,hx27_2,hx27_3,hx27_4,hx27_5,hx27_6,hx27_7,hx27_8,hx27_9,hx27_10,hx27_11⟩:=hx27_0;replace p27:=eq_true p27;replace q27:=eq_true q27;have p28:0≤(x5_2:Int):=of_decide_eq_true zq_;have q28:x5_2<(l0.length:Int):=of_decide_eq_true zq_;obtain ⟨ad28,e28,hx28_0,hx28_1,hx28_2,hx28_3,hx28_4,hx28_5,hx28_6,hx28_7,hx28_8,hx28_9,hx28_10,hx28_11⟩:=at_T79 HR0.out x5_2 p28 q28;obtain rfl:ad19=ad28:=(by injection e28);replace hx28_0:=zx12_ HB hx28_0 hx28_1 hx28_2 hx28_3 hx28_4 hx28_5 hx28_6 hx28_7 hx28_8 hx28_9 hx28_10 hx28_11;clear hx28_1 hx28_2 hx28_3 hx28_4 hx28_5 hx28_6 hx28_7 hx28_8 hx28_9 hx28_10 hx28_11;obtain ⟨hx28_0,hx28_1,hx28_2,hx28_3,hx28_4,hx28_5,hx28_6,hx28_7,hx28_8,hx28_9,hx28_10,hx28_11⟩:=hx28_0;replace p28:=eq_true p28;replace q28:=eq_true q28
                refine start_ (n:=20) (S:=fun w'=>w'.cell? ⟨gb20,0,none⟩=some (.int .i64 x21000_3)∧w'.cell? ⟨gb20,1,none⟩=some (.int .i64 x21001_3)∧w'.cell? ⟨gb20,2,none⟩=some (.int .i64 x21002_3)∧w'.cell? (ad19.add ((x5_2).toNat*12))=some (.string ((rd_T79 l0 x5_2).f0))∧w'.cell? ⟨(ad19.add ((x5_2).toNat*12)).block,(ad19.add ((x5_2).toNat*12)).off+8,none⟩=some (.int .i64 ((rd_T79 l0 x5_2).f4.f0))∧w'.cell? ⟨(ad19.add ((x5_2).toNat*12)).block,(ad19.add ((x5_2).toNat*12)).off+9,none⟩=some (.int .i64 ((rd_T79 l0 x5_2).f4.f1))∧w'.cell? ⟨(ad19.add ((x5_2).toNat*12)).block,(ad19.add ((x5_2).toNat*12)).off+10,none⟩=some (.int .i64 ((rd_T79 l0 x5_2).f4.f2))) (ds:=[]) (bt_ 20 0) (by kernel_rfl) rfl rfl ⟨(blk_cell BK20.out 0).trans rfl,(blk_cell BK20.out 1).trans rfl,(blk_cell BK20.out 2).trans rfl,(zx_ HB hw27_0:),(zx_ HB hw27_8:),(zx_ HB hw27_9:),(zx_ HB hw27_10:)⟩ (fun hHeld=> ?_);refine with_tabW r10_Right.tab18 r10_Right.bits18 (fun HT_ HW_=> ?_);generalize wr.drew=w258 at BK20 HB hx27_0 hx27_1 hx27_10 hx27_11 hx27_2 hx27_3 hx27_4 hx27_5 hx27_6 hx27_7 hx27_8 hx27_9 hx28_0 hx28_1 hx28_10 hx28_11 hx28_2 hx28_3 hx28_4 hx28_5 hx28_6 hx28_7 hx28_8 hx28_9 hHeld ⊢;refine ru_ 1 HT_ ?_;refine ru_ 2 HT_ ?_;refine ru_ 3 HT_ ?_;refine ru_ 4 HT_ ?_;refine rk_ 0 HT_ HW_ hHeld ?_;refine rk_ 5 HT_ HW_ hHeld ?_;refine ru_ 6 HT_ ?_;refine ru_ 7 HT_ ?_;refine ru_ 8 HT_ ?_;refine ru_ 9 HT_ ?_;refine ru_ 10 HT_ ?_;refine ru_ 11 HT_ ?_;refine ru_ 12 HT_ ?_;refine ru_ 16 HT_ ?_;refine ru_ 17 HT_ ?_
                refine rk_ 13 HT_ HW_ hHeld ?_;refine on_ (i:=14) (N:=some 137) (bt_ 20 229375) HT_ (fun K hK=> ?_);refine gs_ Try.func55 #[.slice (some ad19) l0.length c0, .string ((rd_T79 l0 x5_2).f0)] ?_
                with_reducible refine (r10_Up.calls k3 _ _ l0 ((rd_T79 l0 x5_2).f0) t29 _ ?side1 ?side2 A253.out).mono ?_
                (case side1=>exact zc_ (Kd.C_below HR0.out HB.out));(case side2=>exact HC0.out);rintro e w259 ⟨v30,rfl,ho0,hb⟩;refine ⟨_,rfl, ?_⟩;have HO31:=am_ (Kd.R_lower ho0 (below_size (zl1_ HB GE20)));replace BK20:=bb_ BK20 hb;replace HB:=am_ (below_step (zl1_ HB GE20) hb);(try clear hb);(try clear ho0);obtain ⟨Ao260,co260,eo260⟩:=Kd.R_slice HO31.out;(first|subst eo260|cases eo260);refine hK.out _ _ ⟨(blk_cell BK20.out 0).trans rfl,(blk_cell BK20.out 1).trans rfl,(blk_cell BK20.out 2).trans rfl,(zx_ HB hw27_0:),(zx_ HB hw27_8:),(zx_ HB hw27_9:),(zx_ HB hw27_10:)⟩ (fun hHeld=> ?_);clear hK K;refine no_ (N:=some 137) ?_;refine ru_ 15 HT_ ?_;refine ru_ 18 HT_ ?_;refine ru_ 19 HT_ ?_;refine done_ (done_of HT_.out (by kernel_rfl)) ?_;try go_wp2
                go_roundg k3
                case measure=>have:=HK1.out;have:=HK2.out;have:=HK3.out;omega
                case rel=>exact ⟨(wrap64 (x5_2+1)),rf_,H',⟨by have:=HK1.out;have:=HK2.out;have:=HK3.out;omega⟩,⟨zl1_ HB GE20⟩⟩
             ·rw [if_neg c250] at H;exact absurd H (by simp)
            ·rw [if_neg c249] at H;exact absurd H (by simp)
        ·rw [if_neg c233] at H;exact absurd H (by simp)
       ·rw [if_neg c232] at H;have c232b0:=decide_eq_false c232;clear c232;obtain rfl:=Option.some.inj H;go_wp2
        go_ret
        exact ⟨er_,zl0_ HB⟩

def r16_MayMark.f (a0_0:ByteArray) (a0_1:ByteArray) (a0_2:Int) (a0_3:Int) (a0_4:Int) (a0_5:Int):Option (Bool):=(r10_MayName.f a0_0).bind fun t2=>(if t2=true then (if (a0_1.size:Int)≤24 then ((r10_MayVec.f a0_2 a0_3 a0_4).bind fun t3=>(if t3=true then (if a0_5≥1 then (some (decide (a0_5≤9007199254740992))) else (some false)) else (some false))) else (some false)) else (some false))
set_option maxHeartbeats 8000000 in
set_option maxRecDepth 100000 in
theorem r16_MayMark.calls (a0_0:ByteArray) (a0_1:ByteArray) (a0_2:Int) (a0_3:Int) (a0_4:Int) (a0_5:Int) (r:Bool) (w:World) (h:r16_MayMark.f a0_0 a0_1 a0_2 a0_3 a0_4 a0_5=some r):
  Calls Try.prog 90 #[.agg #[.string a0_0, .string a0_1, .int .i64 a0_2, .int .i64 a0_3, .int .i64 a0_4, .int .i64 a0_5]] w fun e w'=>e= .returned (.bool r)∧Below w.heap.size w w':=by
 have hu84:=Try.underlying84;have hu37:=Try.underlying37;have HB:=am_ (Below.refl w.heap.size w);have H:((r10_MayName.f a0_0).bind fun t2=>(if t2=true then (if (a0_1.size:Int)≤24 then ((r10_MayVec.f a0_2 a0_3 a0_4).bind fun t3=>(if t3=true then (if a0_5≥1 then (some (decide (a0_5≤9007199254740992))) else (some false)) else (some false))) else (some false)) else (some false)))=some r:=h;clear h;replace H:=zbd_ H;obtain ⟨t2,A2,H⟩:=H;try dsimp only at H
 by_cases c3:t2=true;subst c3;rw [if_pos rfl] at H;by_cases c4:(a0_1.size:Int)≤24;rw [if_pos c4] at H;have c4b0:=decide_eq_true c4;have c4b1:decide (a0_1.size≤24)=true:=decide_eq_true (by omega);clear c4;replace H:=zbd_ H;obtain ⟨t3,A5,H⟩:=H;try dsimp only at H
 by_cases c6:t3=true;subst c6;rw [if_pos rfl] at H;by_cases c7:a0_5≥1;rw [if_pos c7] at H;have c7b0:decide (1≤a0_5)=true:=decide_eq_true c7;clear c7;obtain rfl:=Option.some.inj H;rotate_left;rw [if_neg c7] at H;have c7b0:decide (1≤a0_5)=false:=decide_eq_false c7;clear c7;obtain rfl:=Option.some.inj H;rotate_left;replace c6:=Bool.eq_false_iff.mpr c6;subst c6;rw [if_neg (show¬(false=true) by decide)] at H;obtain rfl:=Option.some.inj H;rotate_left;rw [if_neg c4] at H;have c4b0:=decide_eq_false c4;have c4b1:decide (a0_1.size≤24)=false:=decide_eq_false (by omega);clear c4;obtain rfl:=Option.some.inj H;rotate_left;replace c3:=Bool.eq_false_iff.mpr c3;subst c3;rw [if_neg (show¬(false=true) by decide)] at H;obtain rfl:=Option.some.inj H;rotate_left
 all_goals (
 go_enter Try.func90,Try.ntmps90;go_wp2_with (first|((with_reducible refine gate_dst (N:=1) rfl ?_);(try (refine gate_guard (by rfl) ?_;dsimp only));refine bx_ (N:=1) (cs:=#[.string a0_0, .string a0_1, .int .i64 a0_2, .int .i64 a0_3, .int .i64 a0_4, .int .i64 a0_5]) (t:=84) ?_;intro gb1 hg w8 hbox hb;have BK1:=am_ (hbox);have GE1:=am_ ((zg0_ HB hg:w.heap.size≤gb1));replace HB:=am_ (below_step (zl0_ HB) hb);clear hb hbox hg;obtain ⟨_,_,_,_,_,_⟩:=x6_ BK1;obtain ⟨_,_,_,_,_,_⟩:=ff6_ BK1)|((with_reducible refine gate_callee (f:=67) rfl ?_);refine gl_ (some 5) Try.func67 #[.string a0_0] ?_;(with_reducible refine (r10_MayName.calls a0_0 _ _ A2.out).mono ?_);rintro e w' ⟨rfl,⟨nd,rfl⟩⟩;refine ⟨_,rfl, ?_⟩)|(go_at_call 68;(with_reducible refine (r10_MayVec.calls a0_2 a0_3 a0_4 _ _ A5.out).mono ?_);rintro e w10 ⟨rfl,hb⟩;replace BK1:=bb_ BK1 hb;replace HB:=am_ (below_step (zl1_ HB GE1) hb);(try clear hb);(try (obtain ⟨_,_,_,_,_,_⟩:=x6_ BK1;obtain ⟨_,_,_,_,_,_⟩:=ff6_ BK1))))
 go_ret)
 ·exact ⟨er_,zl1_ HB GE1⟩
 ·exact ⟨er_,zl1_ HB GE1⟩
 ·exact ⟨er_,zl1_ HB GE1⟩
 ·exact ⟨er_,zl1_ HB GE1⟩
 ·exact ⟨er_,zl1_ HB GE1⟩

def r16_MayMarks.l0:Nat→List (S84)→Int→Option (Bool)
 |0,_,_=>none
 |k+1,x0,x3=>if x3<(x0.length:Int) then (if 0≤x3 then ((r16_MayMark.f ((rd_T84 x0 x3).f0) ((rd_T84 x0 x3).f1) ((rd_T84 x0 x3).f2.f0) ((rd_T84 x0 x3).f2.f1) ((rd_T84 x0 x3).f2.f2) ((rd_T84 x0 x3).f3)).bind fun t2=>(if t2=true then (if x3>0 then (if 0≤(wrap64 (x3 - 1)) then (if (wrap64 (x3 - 1))<(x0.length:Int) then (if ((Op.bytesLess (((rd_T84 x0 (wrap64 (x3 - 1))).f0).toList) (((rd_T84 x0 x3).f0).toList))=true) then (r16_MayMarks.l0 k x0 (wrap64 (x3+1))) else (some false)) else (none)) else (none)) else (r16_MayMarks.l0 k x0 (wrap64 (x3+1)))) else (some false))) else (none)) else (some (decide ((x0.length:Int)≤240)))
def r16_MayMarks.f (k:Nat) (l0:List (S84)):Option (Bool):=r16_MayMarks.l0 k l0 0
theorem r16_MayMarks.mono_l: ∀k,(∀y0 y1,LeO (r16_MayMarks.l0 k y0 y1) (r16_MayMarks.l0 (k+1) y0 y1))
 |0=>fun _ _ r h=>by simp [r16_MayMarks.l0] at h
 |k+1=>by
  have ih0:=r16_MayMarks.mono_l k;intro y0 y1;unfold r16_MayMarks.l0
  repeat' with_reducible first|apply ih0|apply LeO.refl|apply LeO.none|apply LeO.ite|refine LeO.bind ?_ fun _=> ?_
theorem r16_MayMarks.mono: ∀a0 k,LeO (r16_MayMarks.f k a0) (r16_MayMarks.f (k+1) a0):=by
 intro a0 k;have ih0:=r16_MayMarks.mono_l k;unfold r16_MayMarks.f
 repeat' with_reducible first|apply ih0|apply LeO.refl|apply LeO.none|apply LeO.ite|refine LeO.bind ?_ fun _=> ?_
def r16_MayMarks.T4:Bool×List (List Nat×List Nat):=(true,[([],[]),([],[]),([0,1],[0,1]),([2],[2]),([3],[3]),([4],[4]),([5,4],[5]),([6],[6]),([7,6],[6,7]),([8,6,6],[6,8]),([9],[9]),([9],[9]),([11,9],[9,11]),([10,12,9],[9,10,12]),([13,9],[9,13]),([14,9],[9,14]),([9],[9]),([9],[9]),([16,17,9],[9,16,17]),([18,9],[9,18]),([19,9],[9,19]),([15,20,9],[9,15,20]),([9,21,6],[6,9,21]),([6,22],[6,22])])
def r16_MayMarks.B4:List Nat:=[0,0,3,7,15,31,63,127,255,511,1023,1023,3071,8191,16383,32767,1023,1023,197631,459775,984063,2097151,4194303,8388607]
theorem r16_MayMarks.tab4:rtab .any (opsOf Try.f46 4)=r16_MayMarks.T4:=by kernel_rfl
theorem r16_MayMarks.bits4:waitsOk r16_MayMarks.T4.2 r16_MayMarks.B4=true:=by kernel_rfl
set_option maxHeartbeats 8000000 in
set_option maxRecDepth 100000 in
theorem r16_MayMarks.calls (k:Nat) (A0:Option Addr) (c0:Nat) (l0:List (S84)) (r:Bool) (w:World) (hr0:Kd.C k84 w A0 l0.length l0) (hc0:l0.length≤c0) (h:r16_MayMarks.f k l0=some r):
  Calls Try.prog 46 #[.slice A0 l0.length c0] w fun e w'=>e= .returned (.bool r)∧Below w.heap.size w w':=by
 have hu84:=Try.underlying84;have HR0:=Aside0.mk hr0;have HC0:=Aside0.mk hc0;clear hr0 hc0;have HB:=am_ (Below.refl w.heap.size w);have H:(r16_MayMarks.l0 k l0 0)=some r:=h;clear h;have H':=Aside0.mk H;clear H;go_enter Try.func46,Try.ntmps46;go_wp2
 go_loopg [3] k (fun kq v3 w'=> ∃(x3_1:Int),v3= .int .i64 x3_1∧Aside0 (r16_MayMarks.l0 kq l0 x3_1=some r)∧Aside0 (kq≤k)∧Aside0 (Below w.heap.size w w'))
 case atStart=>exact ⟨(0),rf_,H',⟨Nat.le_refl _⟩,⟨zl0_ HB⟩⟩
 case round=>
  clear H';obtain ⟨x3_1,rfl,HA,HK1,HB⟩:=hrel
  cases gk with
  |zero=>exact absurd HA.out (by simp [r16_MayMarks.l0])
  |succ k1=>
   have H:=HA.out;clear HA;simp only [r16_MayMarks.l0] at H;by_cases c2:x3_1<(l0.length:Int);rotate_left
   ·rw [if_neg c2] at H;have c2b0:=decide_eq_false c2;clear c2;obtain rfl:=Option.some.inj H;go_wp2
    go_ret
    exact ⟨er_,zl0_ HB⟩

   rw [if_pos c2] at H;have c2b0:=decide_eq_true c2;clear c2;replace H:=zif_ H;obtain ⟨c3,H⟩:=H;replace c3:=decide_eq_true c3;replace H:=zbd_ H;obtain ⟨t2,A4,H⟩:=H;try dsimp only at H
   by_cases c5:t2=true;rotate_left
   ·replace c5:=Bool.eq_false_iff.mpr c5;subst c5;rw [if_neg (show¬(false=true) by decide)] at H;obtain rfl:=Option.some.inj H;try go_wp2
    replace HB:=am_ (below_drew1 HB.out);have p1:0≤(x3_1:Int):=of_decide_eq_true zq_;have q1:x3_1<(l0.length:Int):=of_decide_eq_true zq_;obtain ⟨ad1,e1,hx1_0,hx1_1,hx1_2,hx1_3,hx1_4,hx1_5⟩:=at_T84 HR0.out x3_1 p1 q1;have hw1_5:=hx1_5;have hw1_4:=hx1_4;have hw1_3:=hx1_3;have hw1_2:=hx1_2;have hw1_1:=hx1_1;have hw1_0:=hx1_0;cases e1;replace hx1_0:=zx6_ HB hx1_0 hx1_1 hx1_2 hx1_3 hx1_4 hx1_5;clear hx1_1 hx1_2 hx1_3 hx1_4 hx1_5;obtain ⟨hx1_0,hx1_1,hx1_2,hx1_3,hx1_4,hx1_5⟩:=hx1_0;replace p1:=eq_true p1;replace q1:=eq_true q1;refine start_ (n:=24) (S:=fun w'=>w'.cell? (ad1.add ((x3_1).toNat*6))=some (.string ((rd_T84 l0 x3_1).f0))∧w'.cell? ⟨(ad1.add ((x3_1).toNat*6)).block,(ad1.add ((x3_1).toNat*6)).off+1,none⟩=some (.string ((rd_T84 l0 x3_1).f1))∧w'.cell? ⟨(ad1.add ((x3_1).toNat*6)).block,(ad1.add ((x3_1).toNat*6)).off+2,none⟩=some (.int .i64 ((rd_T84 l0 x3_1).f2.f0))∧w'.cell? ⟨(ad1.add ((x3_1).toNat*6)).block,(ad1.add ((x3_1).toNat*6)).off+3,none⟩=some (.int .i64 ((rd_T84 l0 x3_1).f2.f1))∧w'.cell? ⟨(ad1.add ((x3_1).toNat*6)).block,(ad1.add ((x3_1).toNat*6)).off+4,none⟩=some (.int .i64 ((rd_T84 l0 x3_1).f2.f2))∧w'.cell? ⟨(ad1.add ((x3_1).toNat*6)).block,(ad1.add ((x3_1).toNat*6)).off+5,none⟩=some (.int .i64 ((rd_T84 l0 x3_1).f3))) (ds:=[]) (bs_ 24 0) (by kernel_rfl) rfl rfl ⟨(zx_ HB hw1_0:),(zx_ HB hw1_1:),(zx_ HB hw1_2:),(zx_ HB hw1_3:),(zx_ HB hw1_4:),(zx_ HB hw1_5:)⟩ (fun hHeld=> ?_);refine with_tabW r16_MayMarks.tab4 r16_MayMarks.bits4 (fun HT_ HW_=> ?_)
    generalize wr.drew=w17 at HB hx1_0 hx1_1 hx1_2 hx1_3 hx1_4 hx1_5 hHeld ⊢;(iterate 3 refine qu_ HT_ ?_);refine qk_ HT_ HW_ hHeld ?_;refine on_ (i:=4) (N:=some 14) (bs_ 24 5) HT_ (fun K hK=> ?_);refine gs_ Try.func90 #[.agg #[.string ((rd_T84 l0 x3_1).f0), .string ((rd_T84 l0 x3_1).f1), .int .i64 ((rd_T84 l0 x3_1).f2.f0), .int .i64 ((rd_T84 l0 x3_1).f2.f1), .int .i64 ((rd_T84 l0 x3_1).f2.f2), .int .i64 ((rd_T84 l0 x3_1).f3)]] ?_
    with_reducible refine (r16_MayMark.calls ((rd_T84 l0 x3_1).f0) ((rd_T84 l0 x3_1).f1) ((rd_T84 l0 x3_1).f2.f0) ((rd_T84 l0 x3_1).f2.f1) ((rd_T84 l0 x3_1).f2.f2) ((rd_T84 l0 x3_1).f3) false _ A4.out).mono ?_
    rintro e w18 ⟨rfl,hb⟩;refine ⟨_,rfl, ?_⟩;replace HB:=am_ (below_step (zl0_ HB) hb);(try clear hb);refine hK.out _ _ ⟨(zx_ HB hw1_0:),(zx_ HB hw1_1:),(zx_ HB hw1_2:),(zx_ HB hw1_3:),(zx_ HB hw1_4:),(zx_ HB hw1_5:)⟩ (fun hHeld=> ?_);clear hK K;refine no_ (N:=some 14) ?_;(iterate 19 first|refine qn_ HT_ ?_|refine qu_ HT_ ?_);refine done_ (done_of HT_.out (by kernel_rfl)) ?_;try go_wp2
    go_ret
    exact ⟨er_,zl0_ HB⟩
   subst c5;rw [if_pos rfl] at H;by_cases c6:x3_1>0;rotate_left
   ·rw [if_neg c6] at H;have c6b0:decide (0<x3_1)=false:=decide_eq_false c6;clear c6;have H':=Aside0.mk H;clear H;try go_wp2
    replace HB:=am_ (below_drew1 HB.out);have p1:0≤(x3_1:Int):=of_decide_eq_true zq_;have q1:x3_1<(l0.length:Int):=of_decide_eq_true zq_;obtain ⟨ad1,e1,hx1_0,hx1_1,hx1_2,hx1_3,hx1_4,hx1_5⟩:=at_T84 HR0.out x3_1 p1 q1;have hw1_5:=hx1_5;have hw1_4:=hx1_4;have hw1_3:=hx1_3;have hw1_2:=hx1_2;have hw1_1:=hx1_1;have hw1_0:=hx1_0;cases e1;replace hx1_0:=zx6_ HB hx1_0 hx1_1 hx1_2 hx1_3 hx1_4 hx1_5;clear hx1_1 hx1_2 hx1_3 hx1_4 hx1_5;obtain ⟨hx1_0,hx1_1,hx1_2,hx1_3,hx1_4,hx1_5⟩:=hx1_0;replace p1:=eq_true p1;replace q1:=eq_true q1;refine start_ (n:=24) (S:=fun w'=>w'.cell? (ad1.add ((x3_1).toNat*6))=some (.string ((rd_T84 l0 x3_1).f0))∧w'.cell? ⟨(ad1.add ((x3_1).toNat*6)).block,(ad1.add ((x3_1).toNat*6)).off+1,none⟩=some (.string ((rd_T84 l0 x3_1).f1))∧w'.cell? ⟨(ad1.add ((x3_1).toNat*6)).block,(ad1.add ((x3_1).toNat*6)).off+2,none⟩=some (.int .i64 ((rd_T84 l0 x3_1).f2.f0))∧w'.cell? ⟨(ad1.add ((x3_1).toNat*6)).block,(ad1.add ((x3_1).toNat*6)).off+3,none⟩=some (.int .i64 ((rd_T84 l0 x3_1).f2.f1))∧w'.cell? ⟨(ad1.add ((x3_1).toNat*6)).block,(ad1.add ((x3_1).toNat*6)).off+4,none⟩=some (.int .i64 ((rd_T84 l0 x3_1).f2.f2))∧w'.cell? ⟨(ad1.add ((x3_1).toNat*6)).block,(ad1.add ((x3_1).toNat*6)).off+5,none⟩=some (.int .i64 ((rd_T84 l0 x3_1).f3))) (ds:=[]) (bs_ 24 0) (by kernel_rfl) rfl rfl ⟨(zx_ HB hw1_0:),(zx_ HB hw1_1:),(zx_ HB hw1_2:),(zx_ HB hw1_3:),(zx_ HB hw1_4:),(zx_ HB hw1_5:)⟩ (fun hHeld=> ?_);refine with_tabW r16_MayMarks.tab4 r16_MayMarks.bits4 (fun HT_ HW_=> ?_)
    generalize wr.drew=w15 at HB hx1_0 hx1_1 hx1_2 hx1_3 hx1_4 hx1_5 hHeld ⊢;(iterate 3 refine qu_ HT_ ?_);refine qk_ HT_ HW_ hHeld ?_;refine on_ (i:=4) (N:=some 14) (bs_ 24 5) HT_ (fun K hK=> ?_);refine gs_ Try.func90 #[.agg #[.string ((rd_T84 l0 x3_1).f0), .string ((rd_T84 l0 x3_1).f1), .int .i64 ((rd_T84 l0 x3_1).f2.f0), .int .i64 ((rd_T84 l0 x3_1).f2.f1), .int .i64 ((rd_T84 l0 x3_1).f2.f2), .int .i64 ((rd_T84 l0 x3_1).f3)]] ?_
    with_reducible refine (r16_MayMark.calls ((rd_T84 l0 x3_1).f0) ((rd_T84 l0 x3_1).f1) ((rd_T84 l0 x3_1).f2.f0) ((rd_T84 l0 x3_1).f2.f1) ((rd_T84 l0 x3_1).f2.f2) ((rd_T84 l0 x3_1).f3) true _ A4.out).mono ?_
    rintro e w16 ⟨rfl,hb⟩;refine ⟨_,rfl, ?_⟩;replace HB:=am_ (below_step (zl0_ HB) hb);(try clear hb);refine hK.out _ _ ⟨(zx_ HB hw1_0:),(zx_ HB hw1_1:),(zx_ HB hw1_2:),(zx_ HB hw1_3:),(zx_ HB hw1_4:),(zx_ HB hw1_5:)⟩ (fun hHeld=> ?_);clear hK K;refine no_ (N:=some 14) ?_;(iterate 19 first|refine qn_ HT_ ?_|refine qu_ HT_ ?_);refine done_ (done_of HT_.out (by kernel_rfl)) ?_;try go_wp2
    go_roundg k1
    case measure=>have:=HK1.out;omega
    case rel=>exact ⟨(wrap64 (x3_1+1)),rf_,H',⟨by have:=HK1.out;omega⟩,⟨zl0_ HB⟩⟩
   rw [if_pos c6] at H;have c6b0:decide (0<x3_1)=true:=decide_eq_true c6;clear c6;obtain ⟨ji7,hji7⟩: ∃j_:Int,(wrap64 (x3_1 - 1))=j_:=⟨_,rfl⟩;replace H:(if 0≤(ji7) then (if (ji7)<(l0.length:Int) then (if ((Op.bytesLess (((rd_T84 l0 (ji7)).f0).toList) (((rd_T84 l0 x3_1).f0).toList))=true) then (r16_MayMarks.l0 k1 l0 (wrap64 (x3_1+1))) else (some false)) else (none)) else (none))=some r:=by first|(rw [hji7] at H;exact H)|(simp only [hji7] at H ⊢;exact H)
   (try rw [hji7] at A4);have hji7w:(IntKind.i64.wrap (x3_1 - 1))=ji7:=(i64_w _).trans hji7;replace H:=zif_ H;obtain ⟨c8,H⟩:=H;replace c8:=decide_eq_true c8;replace H:=zif_ H;obtain ⟨c9,H⟩:=H;replace c9:=decide_eq_true c9;by_cases c10:((Op.bytesLess (((rd_T84 l0 (ji7)).f0).toList) (((rd_T84 l0 x3_1).f0).toList))=true);rw [if_pos c10] at H;have c10b0:(Op.bytesLess (((rd_T84 l0 (ji7)).f0).toList) (((rd_T84 l0 x3_1).f0).toList))=true:=c10;clear c10;have H':=Aside0.mk H;clear H;rotate_left;rw [if_neg c10] at H;have c10b0:(Op.bytesLess (((rd_T84 l0 (ji7)).f0).toList) (((rd_T84 l0 x3_1).f0).toList))=false:=by simpa using c10
   clear c10;obtain rfl:=Option.some.inj H;rotate_left
   all_goals (
   try go_wp2
   replace HB:=am_ (below_drew1 HB.out);have p1:0≤(x3_1:Int):=of_decide_eq_true zq_;have q1:x3_1<(l0.length:Int):=of_decide_eq_true zq_;obtain ⟨ad1,e1,hx1_0,hx1_1,hx1_2,hx1_3,hx1_4,hx1_5⟩:=at_T84 HR0.out x3_1 p1 q1;have hw1_5:=hx1_5;have hw1_4:=hx1_4;have hw1_3:=hx1_3;have hw1_2:=hx1_2;have hw1_1:=hx1_1;have hw1_0:=hx1_0;cases e1;replace hx1_0:=zx6_ HB hx1_0 hx1_1 hx1_2 hx1_3 hx1_4 hx1_5;clear hx1_1 hx1_2 hx1_3 hx1_4 hx1_5;obtain ⟨hx1_0,hx1_1,hx1_2,hx1_3,hx1_4,hx1_5⟩:=hx1_0;replace p1:=eq_true p1;replace q1:=eq_true q1;have p3:0≤((ji7):Int):=of_decide_eq_true zq_;have q3:(ji7)<(l0.length:Int):=of_decide_eq_true zq_;obtain ⟨ad3,e3,hx3_0,hx3_1,hx3_2,hx3_3,hx3_4,hx3_5⟩:=at_T84 HR0.out (ji7) p3 q3;have hw3_0:=hx3_0;obtain rfl:ad1=ad3:=(by injection e3);replace hx3_0:=zx6_ HB hx3_0 hx3_1 hx3_2 hx3_3 hx3_4 hx3_5;clear hx3_1 hx3_2 hx3_3 hx3_4 hx3_5;obtain ⟨hx3_0,hx3_1,hx3_2,hx3_3,hx3_4,hx3_5⟩:=hx3_0;replace p3:=eq_true p3;replace q3:=eq_true q3;have p4:0≤(x3_1:Int):=of_decide_eq_true zq_;have q4:x3_1<(l0.length:Int):=of_decide_eq_true zq_;obtain ⟨ad4,e4,hx4_0,hx4_1,hx4_2,hx4_3,hx4_4,hx4_5⟩:=at_T84 HR0.out x3_1 p4 q4;obtain rfl:ad1=ad4:=(by injection e4);replace hx4_0:=zx6_ HB hx4_0 hx4_1 hx4_2 hx4_3 hx4_4 hx4_5;clear hx4_1 hx4_2 hx4_3 hx4_4 hx4_5;obtain ⟨hx4_0,hx4_1,hx4_2,hx4_3,hx4_4,hx4_5⟩:=hx4_0;replace p4:=eq_true p4;replace q4:=eq_true q4
   refine start_ (n:=24) (S:=fun w'=>w'.cell? (ad1.add ((x3_1).toNat*6))=some (.string ((rd_T84 l0 x3_1).f0))∧w'.cell? ⟨(ad1.add ((x3_1).toNat*6)).block,(ad1.add ((x3_1).toNat*6)).off+1,none⟩=some (.string ((rd_T84 l0 x3_1).f1))∧w'.cell? ⟨(ad1.add ((x3_1).toNat*6)).block,(ad1.add ((x3_1).toNat*6)).off+2,none⟩=some (.int .i64 ((rd_T84 l0 x3_1).f2.f0))∧w'.cell? ⟨(ad1.add ((x3_1).toNat*6)).block,(ad1.add ((x3_1).toNat*6)).off+3,none⟩=some (.int .i64 ((rd_T84 l0 x3_1).f2.f1))∧w'.cell? ⟨(ad1.add ((x3_1).toNat*6)).block,(ad1.add ((x3_1).toNat*6)).off+4,none⟩=some (.int .i64 ((rd_T84 l0 x3_1).f2.f2))∧w'.cell? ⟨(ad1.add ((x3_1).toNat*6)).block,(ad1.add ((x3_1).toNat*6)).off+5,none⟩=some (.int .i64 ((rd_T84 l0 x3_1).f3))∧w'.cell? (ad1.add (((ji7)).toNat*6))=some (.string ((rd_T84 l0 (ji7)).f0))) (ds:=[]) (bt_ 24 0) (by kernel_rfl) rfl rfl ⟨(zx_ HB hw1_0:),(zx_ HB hw1_1:),(zx_ HB hw1_2:),(zx_ HB hw1_3:),(zx_ HB hw1_4:),(zx_ HB hw1_5:),(zx_ HB hw3_0:)⟩ (fun hHeld=> ?_);refine with_tabW r16_MayMarks.tab4 r16_MayMarks.bits4 (fun HT_ HW_=> ?_);generalize wr.drew=w11 at HB hx1_0 hx1_1 hx1_2 hx1_3 hx1_4 hx1_5 hx3_0 hx3_1 hx3_2 hx3_3 hx3_4 hx3_5 hx4_0 hx4_1 hx4_2 hx4_3 hx4_4 hx4_5 hHeld ⊢;refine ru_ 0 HT_ ?_;refine ru_ 1 HT_ ?_;refine ru_ 2 HT_ ?_;refine rk_ 3 HT_ HW_ hHeld ?_;refine on_ (i:=4) (N:=some 14) (bt_ 24 31) HT_ (fun K hK=> ?_)
   refine gs_ Try.func90 #[.agg #[.string ((rd_T84 l0 x3_1).f0), .string ((rd_T84 l0 x3_1).f1), .int .i64 ((rd_T84 l0 x3_1).f2.f0), .int .i64 ((rd_T84 l0 x3_1).f2.f1), .int .i64 ((rd_T84 l0 x3_1).f2.f2), .int .i64 ((rd_T84 l0 x3_1).f3)]] ?_
   with_reducible refine (r16_MayMark.calls ((rd_T84 l0 x3_1).f0) ((rd_T84 l0 x3_1).f1) ((rd_T84 l0 x3_1).f2.f0) ((rd_T84 l0 x3_1).f2.f1) ((rd_T84 l0 x3_1).f2.f2) ((rd_T84 l0 x3_1).f3) true _ A4.out).mono ?_
   rintro e w12 ⟨rfl,hb⟩;refine ⟨_,rfl, ?_⟩;replace HB:=am_ (below_step (zl0_ HB) hb);(try clear hb);refine hK.out _ _ ⟨(zx_ HB hw1_0:),(zx_ HB hw1_1:),(zx_ HB hw1_2:),(zx_ HB hw1_3:),(zx_ HB hw1_4:),(zx_ HB hw1_5:),(zx_ HB hw3_0:)⟩ (fun hHeld=> ?_);clear hK K;refine no_ (N:=some 14) ?_;refine ru_ 5 HT_ ?_;refine ru_ 6 HT_ ?_;refine ru_ 7 HT_ ?_;refine ru_ 8 HT_ ?_;refine ru_ 9 HT_ ?_;refine ru_ 10 HT_ ?_;refine ru_ 11 HT_ ?_;refine ru_ 12 HT_ ?_;refine ru_ 13 HT_ ?_;refine ru_ 14 HT_ ?_;refine ru_ 16 HT_ ?_;refine ru_ 17 HT_ ?_;refine ru_ 18 HT_ ?_;refine ru_ 19 HT_ ?_;refine rk_ 15 HT_ HW_ hHeld ?_;refine rk_ 20 HT_ HW_ hHeld ?_;refine ru_ 21 HT_ ?_;refine ru_ 22 HT_ ?_;refine ru_ 23 HT_ ?_;refine done_ (done_of HT_.out (by kernel_rfl)) ?_;try go_wp2)
   ·go_roundg k1
    case measure=>have:=HK1.out;omega
    case rel=>exact ⟨(wrap64 (x3_1+1)),rf_,H',⟨by have:=HK1.out;omega⟩,⟨zl0_ HB⟩⟩
   ·go_ret
    exact ⟨by first|rfl|(simp [errW_none,errW_some]<;>rfl)|(simp only [←hji7];first|rfl|(simp [errW_none,errW_some]<;>rfl))|(simp [*,errW_none,errW_some]<;>rfl),zl0_ HB⟩
attribute [local go_sem high] eqA37
def r16_MayStep.j0:Nat→Bool→Int→ByteArray→ByteArray→Int→Int→Int→Option (Bool)
 |0,_,_,_,_,_,_,_=>none
 |k+1,x18,x2000,x2001,x2002,x2003,x2004,x2005=>if x18=true then (some false) else (if x2000=1 then (some true) else (if x2000=2 then (some (x2002.toList==([]:List UInt8))) else (if x2000=3 then (some (x2003==0 && (x2004==0 && (x2005==0)))) else (if x2000=4 then (if x2002.toList=([]:List UInt8) then (some (x2003==0 && (x2004==0 && (x2005==0)))) else (some false)) else (some false)))))
def r16_MayStep.f (k:Nat) (a0_0:Int) (a0_1:ByteArray) (a0_2:ByteArray) (a0_3:Int) (a0_4:Int) (a0_5:Int):Option (Bool):=(r10_MayName.f a0_1).bind fun t2=>(if t2=true then (if (a0_2.size:Int)>24 then (r16_MayStep.j0 k true a0_0 a0_1 a0_2 a0_3 a0_4 a0_5) else ((r10_MayVec.f a0_3 a0_4 a0_5).bind fun t3=>(r16_MayStep.j0 k (!t3) a0_0 a0_1 a0_2 a0_3 a0_4 a0_5))) else (r16_MayStep.j0 k true a0_0 a0_1 a0_2 a0_3 a0_4 a0_5))
theorem r16_MayStep.mono_l: ∀k,(∀y0 y1 y2 y3 y4 y5 y6,LeO (r16_MayStep.j0 k y0 y1 y2 y3 y4 y5 y6) (r16_MayStep.j0 (k+1) y0 y1 y2 y3 y4 y5 y6))
 |0=>fun _ _ _ _ _ _ _ r h=>by simp [r16_MayStep.j0] at h
 |k+1=>by
  have ih0:=r16_MayStep.mono_l k;intro y0 y1 y2 y3 y4 y5 y6;unfold r16_MayStep.j0
  repeat' with_reducible first|apply ih0|apply LeO.refl|apply LeO.none|apply LeO.ite|refine LeO.bind ?_ fun _=> ?_
theorem r16_MayStep.mono: ∀a0 a1 a2 a3 a4 a5 k,LeO (r16_MayStep.f k a0 a1 a2 a3 a4 a5) (r16_MayStep.f (k+1) a0 a1 a2 a3 a4 a5):=by
 intro a0 a1 a2 a3 a4 a5 k;have ih0:=r16_MayStep.mono_l k;unfold r16_MayStep.f
 repeat' with_reducible first|apply ih0|apply LeO.refl|apply LeO.none|apply LeO.ite|refine LeO.bind ?_ fun _=> ?_
set_option maxHeartbeats 8000000 in
set_option maxRecDepth 100000 in
theorem r16_MayStep.calls (k:Nat) (a0_0:Int) (a0_1:ByteArray) (a0_2:ByteArray) (a0_3:Int) (a0_4:Int) (a0_5:Int) (r:Bool) (w:World) (h:r16_MayStep.f k a0_0 a0_1 a0_2 a0_3 a0_4 a0_5=some r):
  Calls Try.prog 102 #[.agg #[.int .i64 a0_0, .string a0_1, .string a0_2, .int .i64 a0_3, .int .i64 a0_4, .int .i64 a0_5]] w fun e w'=>e= .returned (.bool r)∧Below w.heap.size w w':=by
 have hu76:=Try.underlying76;have hu37:=Try.underlying37;have HB:=am_ (Below.refl w.heap.size w);have H:((r10_MayName.f a0_1).bind fun t2=>(if t2=true then (if (a0_2.size:Int)>24 then (r16_MayStep.j0 k true a0_0 a0_1 a0_2 a0_3 a0_4 a0_5) else ((r10_MayVec.f a0_3 a0_4 a0_5).bind fun t3=>(r16_MayStep.j0 k (!t3) a0_0 a0_1 a0_2 a0_3 a0_4 a0_5))) else (r16_MayStep.j0 k true a0_0 a0_1 a0_2 a0_3 a0_4 a0_5)))=some r:=h;clear h;have HC2:=Aside0.mk H;clear H;go_enter Try.func102,Try.ntmps102;go_upto_region 1 with (first|((with_reducible refine gate_dst (N:=1) rfl ?_);(try (refine gate_guard (by rfl) ?_;dsimp only));refine bx_ (N:=1) (cs:=#[.int .i64 a0_0, .string a0_1, .string a0_2, .int .i64 a0_3, .int .i64 a0_4, .int .i64 a0_5]) (t:=76) ?_;intro gb1 hg w3 hbox hb;have BK1:=am_ (hbox);have GE1:=am_ ((zg0_ HB hg:w.heap.size≤gb1));replace HB:=am_ (below_step (zl0_ HB) hb);clear hb hbox hg))
 (try simp only [Act.put,List.setIfInBounds_toArray,List.set_cons_zero,List.set_cons_succ]);go_cut [18] (fun v18 wc=> ∃(kq:Nat) (x18_1:Bool),v18= .bool x18_1∧Aside0 (r16_MayStep.j0 kq x18_1 a0_0 a0_1 a0_2 a0_3 a0_4 a0_5=some r)∧Aside0 (kq≤k)∧Aside0 (wc.heap[gb1]?=some (.cells #[.int .i64 a0_0, .string a0_1, .string a0_2, .int .i64 a0_3, .int .i64 a0_4, .int .i64 a0_5] 76 (0,0)))∧Aside0 (Below w.heap.size w wc))
 case first=>
  have H:=HC2.out;clear HC2;replace H:=zbd_ H;obtain ⟨t2,A4,H⟩:=H;try dsimp only at H
  by_cases c5:t2=true;rotate_left
  ·replace c5:=Bool.eq_false_iff.mpr c5;subst c5;rw [if_neg (show¬(false=true) by decide)] at H;have H':=Aside0.mk H;clear H;obtain ⟨_,_,_,_,_,_,_,_,_,_,_,_⟩:=y6_ BK1;go_wp2_with (first|((with_reducible refine gate_callee (f:=67) rfl ?_);refine gl_ (some 5) Try.func67 #[.string a0_1] ?_;(with_reducible refine (r10_MayName.calls a0_1 false _ A4.out).mono ?_);rintro e w' ⟨rfl,⟨nd,rfl⟩⟩;refine ⟨_,rfl, ?_⟩))
   go_meet
   case rel=>exact ⟨_,(true),rf_,H',⟨by first|omega|exact Nat.le_refl _⟩,am_ (zb_ BK1),⟨zl1_ HB GE1⟩⟩
  subst c5;rw [if_pos rfl] at H;by_cases c6:(a0_2.size:Int)>24
  ·rw [if_pos c6] at H;have c6b0:decide (24<(a0_2.size:Int))=true:=decide_eq_true c6;have c6b1:decide (24<a0_2.size)=true:=decide_eq_true (by omega);clear c6;(first|rw [c6b0]|(simp only [i64_w,i32_w];rw [c6b0])|skip);have H':=Aside0.mk H;clear H;obtain ⟨_,_,_,_,_,_,_,_,_,_,_,_⟩:=y6_ BK1;go_wp2_with (first|((with_reducible refine gate_callee (f:=67) rfl ?_);refine gl_ (some 5) Try.func67 #[.string a0_1] ?_;(with_reducible refine (r10_MayName.calls a0_1 true _ A4.out).mono ?_);rintro e w' ⟨rfl,⟨nd,rfl⟩⟩;refine ⟨_,rfl, ?_⟩))
   go_meet
   case rel=>exact ⟨_,(true),rf_,H',⟨by first|omega|exact Nat.le_refl _⟩,am_ (zb_ BK1),⟨zl1_ HB GE1⟩⟩
  rw [if_neg c6] at H;have c6b0:decide (24<(a0_2.size:Int))=false:=decide_eq_false c6;have c6b1:decide (24<a0_2.size)=false:=decide_eq_false (by omega);clear c6;(first|rw [c6b0]|(simp only [i64_w,i32_w];rw [c6b0])|skip);replace H:=zbd_ H;obtain ⟨t3,A8,H⟩:=H;try dsimp only at H
  have H':=Aside0.mk H;clear H;obtain ⟨_,_,_,_,_,_,_,_,_,_,_,_⟩:=y6_ BK1;go_wp2_with (first|((with_reducible refine gate_callee (f:=67) rfl ?_);refine gl_ (some 5) Try.func67 #[.string a0_1] ?_;(with_reducible refine (r10_MayName.calls a0_1 true _ A4.out).mono ?_);rintro e w' ⟨rfl,⟨nd,rfl⟩⟩;refine ⟨_,rfl, ?_⟩)|(go_at_call 68;(with_reducible refine (r10_MayVec.calls a0_3 a0_4 a0_5 t3 _ A8.out).mono ?_);rintro e w10 ⟨rfl,hb⟩;replace BK1:=bb_ BK1 hb;replace HB:=am_ (below_step (zl1_ HB GE1) hb);(try clear hb)))
  go_meet
  case rel=>exact ⟨_,(!t3),rf_,H',⟨by first|omega|exact Nat.le_refl _⟩,am_ (zb_ BK1),⟨zl1_ HB GE1⟩⟩
 case rest=>
  clear HC2;obtain ⟨kq,x18_1,rfl,HA,HJ1,BK1,HB⟩:=hcut
  cases kq with
  |zero=>exact absurd HA.out (by simp [r16_MayStep.j0])
  |succ kj1=>
   have H:=HA.out;clear HA;simp only [r16_MayStep.j0] at H;by_cases c12:x18_1=true
   ·subst c12;rw [if_pos rfl] at H;obtain rfl:=Option.some.inj H;go_wp2
    go_ret
    exact ⟨er_,zl1_ HB GE1⟩
   replace c12:=Bool.eq_false_iff.mpr c12;subst c12;rw [if_neg (show¬(false=true) by decide)] at H;by_cases c13:a0_0=1
   ·rw [if_pos c13] at H;have c13b0:=beq_iff_eq.mpr c13;have c13b1:=bne_eq_false_iff_eq.mpr c13;clear c13;obtain rfl:=Option.some.inj H;obtain ⟨_,_,_,_,_,_,_,_,_,_,_,_⟩:=y6_ BK1;go_wp2
    go_ret
    exact ⟨er_,zl1_ HB GE1⟩
   rw [if_neg c13] at H;have c13b0:=beq_eq_false_iff_ne.mpr c13;have c13b1:=bne_iff_ne.mpr c13;by_cases c15:a0_0=2
   ·rw [if_pos c15] at H;have c15b0:=beq_iff_eq.mpr c15;have c15b1:=bne_eq_false_iff_eq.mpr c15;clear c15;obtain rfl:=Option.some.inj H;obtain ⟨_,_,_,_,_,_,_,_,_,_,_,_⟩:=y6_ BK1;go_wp2
    go_ret
    exact ⟨er_,zl1_ HB GE1⟩
   rw [if_neg c15] at H;have c15b0:=beq_eq_false_iff_ne.mpr c15;have c15b1:=bne_iff_ne.mpr c15;by_cases c17:a0_0=3
   ·rw [if_pos c17] at H;have c17b0:=beq_iff_eq.mpr c17;have c17b1:=bne_eq_false_iff_eq.mpr c17;clear c17;obtain rfl:=Option.some.inj H;obtain ⟨_,_,_,_,_,_,_,_,_,_,_,_⟩:=y6_ BK1;go_wp2
    go_ret
    exact ⟨er_,zl1_ HB GE1⟩
   rw [if_neg c17] at H;have c17b0:=beq_eq_false_iff_ne.mpr c17;have c17b1:=bne_iff_ne.mpr c17;by_cases c19:a0_0=4;rotate_left
   ·rw [if_neg c19] at H;have c19b0:=beq_eq_false_iff_ne.mpr c19;have c19b1:=bne_iff_ne.mpr c19;obtain rfl:=Option.some.inj H;obtain ⟨_,_,_,_,_,_,_,_,_,_,_,_⟩:=y6_ BK1;go_wp2
    go_ret
    exact ⟨er_,zl1_ HB GE1⟩

   rw [if_pos c19] at H;have c19b0:=beq_iff_eq.mpr c19;have c19b1:=bne_eq_false_iff_eq.mpr c19;clear c19;by_cases c20:a0_2.toList=([]:List UInt8)
   ·rw [if_pos c20] at H;have c20b0:=beq_iff_eq.mpr c20;have c20b1:=bne_eq_false_iff_eq.mpr c20;clear c20;obtain rfl:=Option.some.inj H;obtain ⟨_,_,_,_,_,_,_,_,_,_,_,_⟩:=y6_ BK1;go_wp2
    go_ret
    exact ⟨er_,zl1_ HB GE1⟩
   rw [if_neg c20] at H;have c20b0:=beq_eq_false_iff_ne.mpr c20;have c20b1:=bne_iff_ne.mpr c20;obtain rfl:=Option.some.inj H;obtain ⟨_,_,_,_,_,_,_,_,_,_,_,_⟩:=y6_ BK1;go_wp2
   go_ret
   exact ⟨er_,zl1_ HB GE1⟩
def r16_May.l0:Nat→Int→List (S84)→List (S76)→Int→Option (Bool)
 |0,_,_,_,_=>none
 |k+1,x3,x2000,x2001,x2002=>if x3<(x2001.length:Int) then (if 0≤x3 then ((r16_MayStep.f k ((rd_T76 x2001 x3).f0) ((rd_T76 x2001 x3).f1) ((rd_T76 x2001 x3).f2) ((rd_T76 x2001 x3).f3.f0) ((rd_T76 x2001 x3).f3.f1) ((rd_T76 x2001 x3).f3.f2)).bind fun t3=>(if t3=true then (r16_May.l0 k (wrap64 (x3+1)) x2000 x2001 x2002) else (some false))) else (none)) else ((r16_MayMarks.f k x2000).bind fun t4=>(if t4=true then (if (x2001.length:Int)≤480 then (if x2002≥0 then (if x2002<(x2001.length:Int) then (some true) else (if x2002=0 then (some ((x2001.length:Int)==0)) else (some false))) else (some false)) else (some false)) else (some false)))
def r16_May.f (k:Nat) (l0_0:List (S84)) (l0_1:List (S76)) (a0_2:Int):Option (Bool):=r16_May.l0 k 0 l0_0 l0_1 a0_2
theorem r16_May.mono_l: ∀k,(∀y0 y1 y2 y3,LeO (r16_May.l0 k y0 y1 y2 y3) (r16_May.l0 (k+1) y0 y1 y2 y3))
 |0=>fun _ _ _ _ r h=>by simp [r16_May.l0] at h
 |k+1=>by
  have ih0:=r16_May.mono_l k;intro y0 y1 y2 y3;unfold r16_May.l0
  repeat' with_reducible first|apply ih0|apply r16_MayMarks.mono|apply r16_MayStep.mono|apply LeO.refl|apply LeO.none|apply LeO.ite|refine LeO.bind ?_ fun _=> ?_
theorem r16_May.mono: ∀a0 a1 a2 k,LeO (r16_May.f k a0 a1 a2) (r16_May.f (k+1) a0 a1 a2):=by
 intro a0 a1 a2 k;have ih0:=r16_May.mono_l k;unfold r16_May.f
 repeat' with_reducible first|apply ih0|apply r16_MayMarks.mono|apply r16_MayStep.mono|apply LeO.refl|apply LeO.none|apply LeO.ite|refine LeO.bind ?_ fun _=> ?_
set_option maxHeartbeats 8000000 in
set_option maxRecDepth 100000 in
theorem r16_May.calls (k:Nat) (A0_0:Option Addr) (c0_0:Nat) (l0_0:List (S84)) (A0_1:Option Addr) (c0_1:Nat) (l0_1:List (S76)) (a0_2:Int) (r:Bool) (w:World) (hr0_0:Kd.C k84 w A0_0 l0_0.length l0_0) (hc0_0:l0_0.length≤c0_0) (hr0_1:Kd.C k76 w A0_1 l0_1.length l0_1) (hc0_1:l0_1.length≤c0_1) (h:r16_May.f k l0_0 l0_1 a0_2=some r):
  Calls Try.prog 57 #[.agg #[.slice A0_0 l0_0.length c0_0, .slice A0_1 l0_1.length c0_1, .int .i64 a0_2]] w fun e w'=>e= .returned (.bool r)∧Below w.heap.size w w':=by
 have hu63:=Try.underlying63;have hu76:=Try.underlying76;have HR0_0:=Aside0.mk hr0_0;have HC0_0:=Aside0.mk hc0_0;clear hr0_0 hc0_0;have HR0_1:=Aside0.mk hr0_1;have HC0_1:=Aside0.mk hc0_1;clear hr0_1 hc0_1;have HB:=am_ (Below.refl w.heap.size w);have H:(r16_May.l0 k 0 l0_0 l0_1 a0_2)=some r:=h;clear h;have H':=Aside0.mk H;clear H;go_enter Try.func57,Try.ntmps57;go_wp2_with (first|((with_reducible refine gate_dst (N:=1) rfl ?_);(try (refine gate_guard (by rfl) ?_;dsimp only));refine bx_ (N:=1) (cs:=#[.slice A0_0 l0_0.length c0_0, .slice A0_1 l0_1.length c0_1, .int .i64 a0_2]) (t:=63) ?_;intro gb1 hg w2 hbox hb;have BK1:=am_ (hbox);have GE1:=am_ ((zg0_ HB hg:w.heap.size≤gb1));replace HB:=am_ (below_step (zl0_ HB) hb);clear hb hbox hg))
 go_loopg [3] k (fun kq v3 w'=> ∃(x3_1:Int),v3= .int .i64 x3_1∧Aside0 (r16_May.l0 kq x3_1 l0_0 l0_1 a0_2=some r)∧Aside0 (kq≤k)∧Aside0 (w'.heap[gb1]?=some (.cells #[(.slice A0_0 l0_0.length c0_0),(.slice A0_1 l0_1.length c0_1), .int .i64 a0_2] 63 (0,0)))∧Aside0 (Below w.heap.size w w'))
 case atStart=>exact ⟨(0),rf_,H',⟨Nat.le_refl _⟩,am_ (zb_ BK1),⟨zl1_ HB GE1⟩⟩
 case round=>
  clear H';obtain ⟨x3_1,rfl,HA,HK1,BK1,HB⟩:=hrel
  cases gk with
  |zero=>exact absurd HA.out (by simp [r16_May.l0])
  |succ k1=>
   have H:=HA.out;clear HA;simp only [r16_May.l0] at H;by_cases c3:x3_1<(l0_1.length:Int)
   ·rw [if_pos c3] at H;have c3b0:=decide_eq_true c3;clear c3;replace H:=zif_ H;obtain ⟨c4,H⟩:=H;replace c4:=decide_eq_true c4;replace H:=zbd_ H;obtain ⟨t3,A5,H⟩:=H;try dsimp only at H
    by_cases c6:t3=true
    ·subst c6;rw [if_pos rfl] at H;have H':=Aside0.mk H;clear H;obtain ⟨_,_,_,_,_,_⟩:=y3_ BK1;obtain ⟨p2,q2,ad2,e2,hx2_0,hx2_1,hx2_2,hx2_3,hx2_4,hx2_5⟩:=zat_ (at_T76 HR0_1.out x3_1);cases e2;replace hx2_0:=zx6_ HB hx2_0 hx2_1 hx2_2 hx2_3 hx2_4 hx2_5;clear hx2_1 hx2_2 hx2_3 hx2_4 hx2_5;obtain ⟨hx2_0,hx2_1,hx2_2,hx2_3,hx2_4,hx2_5⟩:=hx2_0;go_wp2_with (first|((with_reducible refine gate_callee (f:=102) rfl ?_);refine gl_ (some 16) Try.func102 #[.agg #[.int .i64 ((rd_T76 l0_1 x3_1).f0), .string ((rd_T76 l0_1 x3_1).f1), .string ((rd_T76 l0_1 x3_1).f2), .int .i64 ((rd_T76 l0_1 x3_1).f3.f0), .int .i64 ((rd_T76 l0_1 x3_1).f3.f1), .int .i64 ((rd_T76 l0_1 x3_1).f3.f2)]] ?_;(with_reducible refine (r16_MayStep.calls k1 ((rd_T76 l0_1 x3_1).f0) ((rd_T76 l0_1 x3_1).f1) ((rd_T76 l0_1 x3_1).f2) ((rd_T76 l0_1 x3_1).f3.f0) ((rd_T76 l0_1 x3_1).f3.f1) ((rd_T76 l0_1 x3_1).f3.f2) true _ A5.out).mono ?_);rintro e w8 ⟨rfl,hb⟩;refine ⟨_,rfl, ?_⟩;replace BK1:=bb_ BK1 hb;replace HB:=am_ (below_step (zl1_ HB GE1) hb);(try clear hb)))
     go_roundg k1
     case measure=>have:=HK1.out;omega
     case rel=>exact ⟨(wrap64 (x3_1+1)),rf_,H',⟨by have:=HK1.out;omega⟩,am_ (zb_ BK1),⟨zl1_ HB GE1⟩⟩
    replace c6:=Bool.eq_false_iff.mpr c6;subst c6;rw [if_neg (show¬(false=true) by decide)] at H;obtain rfl:=Option.some.inj H;obtain ⟨_,_,_,_,_,_⟩:=y3_ BK1;obtain ⟨p2,q2,ad2,e2,hx2_0,hx2_1,hx2_2,hx2_3,hx2_4,hx2_5⟩:=zat_ (at_T76 HR0_1.out x3_1);cases e2;replace hx2_0:=zx6_ HB hx2_0 hx2_1 hx2_2 hx2_3 hx2_4 hx2_5;clear hx2_1 hx2_2 hx2_3 hx2_4 hx2_5;obtain ⟨hx2_0,hx2_1,hx2_2,hx2_3,hx2_4,hx2_5⟩:=hx2_0;go_wp2_with (first|((with_reducible refine gate_callee (f:=102) rfl ?_);refine gl_ (some 16) Try.func102 #[.agg #[.int .i64 ((rd_T76 l0_1 x3_1).f0), .string ((rd_T76 l0_1 x3_1).f1), .string ((rd_T76 l0_1 x3_1).f2), .int .i64 ((rd_T76 l0_1 x3_1).f3.f0), .int .i64 ((rd_T76 l0_1 x3_1).f3.f1), .int .i64 ((rd_T76 l0_1 x3_1).f3.f2)]] ?_;(with_reducible refine (r16_MayStep.calls k1 ((rd_T76 l0_1 x3_1).f0) ((rd_T76 l0_1 x3_1).f1) ((rd_T76 l0_1 x3_1).f2) ((rd_T76 l0_1 x3_1).f3.f0) ((rd_T76 l0_1 x3_1).f3.f1) ((rd_T76 l0_1 x3_1).f3.f2) false _ A5.out).mono ?_);rintro e w10 ⟨rfl,hb⟩;refine ⟨_,rfl, ?_⟩;replace BK1:=bb_ BK1 hb;replace HB:=am_ (below_step (zl1_ HB GE1) hb);(try clear hb)))
    go_ret
    exact ⟨er_,zl1_ HB GE1⟩
   rw [if_neg c3] at H;have c3b0:=decide_eq_false c3;clear c3;replace H:=zbd_ H;obtain ⟨t4,A11,H⟩:=H;try dsimp only at H
   by_cases c12:t4=true;rotate_left
   ·replace c12:=Bool.eq_false_iff.mpr c12;subst c12;rw [if_neg (show¬(false=true) by decide)] at H;obtain rfl:=Option.some.inj H;obtain ⟨_,_,_,_,_,_⟩:=y3_ BK1;go_wp2_with (first|((with_reducible refine gate_callee (f:=46) rfl ?_);refine gl_ (some 20) Try.func46 #[.slice A0_0 l0_0.length c0_0] ?_;(with_reducible refine (r16_MayMarks.calls k1 _ _ l0_0 false _ ?side1 ?side2 A11.out).mono ?_);(case side1=>exact zc_ (Kd.C_below HR0_0.out HB.out));(case side2=>exact HC0_0.out);rintro e w33 ⟨rfl,hb⟩;refine ⟨_,rfl, ?_⟩;replace BK1:=bb_ BK1 hb;replace HB:=am_ (below_step (zl1_ HB GE1) hb);(try clear hb)))
    go_ret
    exact ⟨er_,zl1_ HB GE1⟩

   subst c12;rw [if_pos rfl] at H;by_cases c13:(l0_1.length:Int)≤480;rw [if_pos c13] at H;have c13b0:=decide_eq_true c13;have c13b1:decide (l0_1.length≤480)=true:=decide_eq_true (by omega);clear c13;by_cases c14:a0_2≥0;rw [if_pos c14] at H;have c14b0:decide (0≤a0_2)=true:=decide_eq_true c14;clear c14;by_cases c15:a0_2<(l0_1.length:Int);rw [if_pos c15] at H;have c15b0:=decide_eq_true c15;clear c15;obtain rfl:=Option.some.inj H;obtain ⟨_,_,_,_,_,_⟩:=y3_ BK1;rotate_left;rw [if_neg c15] at H;have c15b0:=decide_eq_false c15;clear c15;by_cases c19:a0_2=0;rw [if_pos c19] at H;have c19b0:=beq_iff_eq.mpr c19;have c19b1:=bne_eq_false_iff_eq.mpr c19;clear c19;obtain rfl:=Option.some.inj H;obtain ⟨_,_,_,_,_,_⟩:=y3_ BK1;rotate_left;rw [if_neg c19] at H;have c19b0:=beq_eq_false_iff_ne.mpr c19;have c19b1:=bne_iff_ne.mpr c19;obtain rfl:=Option.some.inj H;obtain ⟨_,_,_,_,_,_⟩:=y3_ BK1;rotate_left;rw [if_neg c14] at H;have c14b0:decide (0≤a0_2)=false:=decide_eq_false c14;clear c14;obtain rfl:=Option.some.inj H;obtain ⟨_,_,_,_,_,_⟩:=y3_ BK1;rotate_left;rw [if_neg c13] at H;have c13b0:=decide_eq_false c13;have c13b1:decide (l0_1.length≤480)=false:=decide_eq_false (by omega);clear c13;obtain rfl:=Option.some.inj H;obtain ⟨_,_,_,_,_,_⟩:=y3_ BK1;rotate_left
   all_goals (
   go_wp2_with (first|((with_reducible refine gate_callee (f:=46) rfl ?_);refine gl_ (some 20) Try.func46 #[.slice A0_0 l0_0.length c0_0] ?_;(with_reducible refine (r16_MayMarks.calls k1 _ _ l0_0 true _ ?side1 ?side2 A11.out).mono ?_);(case side1=>exact zc_ (Kd.C_below HR0_0.out HB.out));(case side2=>exact HC0_0.out);rintro e w17 ⟨rfl,hb⟩;refine ⟨_,rfl, ?_⟩;replace BK1:=bb_ BK1 hb;replace HB:=am_ (below_step (zl1_ HB GE1) hb);(try clear hb);obtain ⟨_,_,_⟩:=x3_ BK1;obtain ⟨_,_,_⟩:=ff3_ BK1))
   go_ret
   exact ⟨er_,zl1_ HB GE1⟩)
def slices_Clone_Item.f (l0:List (S79)):Option (List (S79)):=if l0.length<1256584717458 then some l0 else none
set_option maxHeartbeats 8000000 in
set_option maxRecDepth 100000 in
theorem slices_Clone_Item.calls (A0:Option Addr) (c0:Nat) (l0:List (S79)) (r:List (S79)) (w:World) (hr0:Kd.C k79 w A0 l0.length l0) (hc0:l0.length≤c0) (h:slices_Clone_Item.f l0=some r):
    Calls Try.prog 88 #[.slice A0 l0.length c0] w fun e w'=> ∃v0_:Value,e= .returned (v0_)∧Kd.R k79 79 w' w.heap.size (fun _=>True) v0_ r∧Below w.heap.size w w':=by
  have hlim:l0.length<1256584717458∧l0=r:=by
    unfold slices_Clone_Item.f at h
    split at h
    · exact ⟨by assumption,Option.some.inj h⟩
    cases h
  obtain ⟨hlim,rfl⟩:=hlim;have hnil:=fun (W:World) (n c:Nat)=>Lib.run_eql_slice_nil (P:=Try.prog) W 46 79 A0 n c 0 0 Try.underlying46
  cases A0 with
  | none =>
    have hl:l0=[]:=by
      cases l0 with
      |nil=>rfl
      |cons x l=>exact absurd (hr0.2.2 (by simp)) (by simp)
    subst hl;clear hr0;go_enter Try.func88,Try.ntmps88;go_wp2
    go_ret
    exact ⟨_,rfl,Kd.R_nil _ _ _ _ _,Below.refl _ _⟩
  | some ad =>
    have HR0:=Aside0.mk hr0;have HC0:=Aside0.mk hc0;have LM:=Aside0.mk hlim;clear hr0 hc0 hlim h;have HB:=am_ (Below.refl w.heap.size w);go_enter Try.func88,Try.ntmps88
    go_wp2_with (first|((with_reducible refine gate_dst (N:=5) rfl ?_);refine Kd.R_lit k79 _ 79 ?hg (N:=5) ?hd (xs:=([]:List (S79))) (inner:=[]) (ok:=fun _=>True) (okp:=fun _=>True) ?hr ?hp (fun _ hk=>hk) trivial (Below.refl _ _) (Nat.le_refl _) (by simp) ?_;(case hd=>rfl);(case hg=>rfl);(case hr=>first|(go_simp;done)|(go_simp;rfl));(case hp=>exact (Reps.none _ _));intro v2 w3 ho4 hb hg_ hnew_;clear hg_ hnew_;have HO3:=am_ (Kd.R_lower ho4 (below_size HB.out));replace HB:=am_ (below_step HB.out hb);clear hb ho4)|((with_reducible refine gate_builtin (b:= .append) (xs:=#[.tmp 5, .tmp 6]) rfl ?_);at_builtin;refine Kd.R_append_rows k79 (w0:=w) w.heap.size rfl (.tmp 5) (.tmp 6) 46 79 (.agg #[(.string ⟨#[]⟩),(.string ⟨#[]⟩),(.int .i64 0),(.int .i64 0),(.int .i64 0),(.int .i64 0),(.int .i64 0),(.int .i64 0),(.int .i64 0),(.int .i64 0),(.int .i64 0),(.int .i64 0)]) 112 rfl Try.underlying46 info79 rfl (by decide) (by omega) v2 [] l0 _ _ _ (fun _=>True) (fun _=>False) rfl rfl ?aO ?aR (fun _ _ h=>h) (fun _ h=>h.elim) ?aF ?aB ?aS ?aL ?_;(case aR=>exact (Kd.C_below HR0.out HB.out));(case aB=>exact HB.out);(case aF=>exact (fun _ _=>trivial));(case aO=>exact HO3.out);(case aS=>exact (below_size HB.out));(case aL=>have:=LM.out;simp;omega);intro v5 w5 ho hb hg hat;have n0_:=am_ (hb);have n1_:=am_ (ho);clear HB;clear HO3;have HB:=n0_;have HO6:=n1_;clear n0_ n1_;clear ho hb hg hat))
    go_ret
    exact ⟨_,rfl,HO6.out,HB.out⟩


def vec_Le.f (a0_0:Int) (a0_1:Int) (a0_2:Int) (a1_0:Int) (a1_1:Int) (a1_2:Int):Option (Bool):=if a0_0≤a1_0 then (if a0_1≤a1_1 then (some (decide (a0_2≤a1_2))) else (some false)) else (some false)
set_option maxHeartbeats 8000000 in
set_option maxRecDepth 100000 in
theorem vec_Le.calls (a0_0:Int) (a0_1:Int) (a0_2:Int) (a1_0:Int) (a1_1:Int) (a1_2:Int) (r:Bool) (w:World) (h:vec_Le.f a0_0 a0_1 a0_2 a1_0 a1_1 a1_2=some r):
  Calls Try.prog 114 #[.agg #[.int .i64 a0_0, .int .i64 a0_1, .int .i64 a0_2], .agg #[.int .i64 a1_0, .int .i64 a1_1, .int .i64 a1_2]] w fun e w'=>e= .returned (.bool r)∧Below w.heap.size w w':=by
 have hu37:=Try.underlying37;have HB:=am_ (Below.refl w.heap.size w);have H:(if a0_0≤a1_0 then (if a0_1≤a1_1 then (some (decide (a0_2≤a1_2))) else (some false)) else (some false))=some r:=h;clear h;by_cases c3:a0_0≤a1_0;rw [if_pos c3] at H;have c3b0:=decide_eq_true c3;clear c3;by_cases c4:a0_1≤a1_1;rw [if_pos c4] at H;have c4b0:=decide_eq_true c4;clear c4;obtain rfl:=Option.some.inj H;rotate_left;rw [if_neg c4] at H;have c4b0:=decide_eq_false c4;clear c4;obtain rfl:=Option.some.inj H;rotate_left;rw [if_neg c3] at H;have c3b0:=decide_eq_false c3;clear c3;obtain rfl:=Option.some.inj H;rotate_left
 all_goals (
 go_enter Try.func114,Try.ntmps114;go_wp2_with (first|((with_reducible refine gate_dst (N:=2) rfl ?_);refine bx_ (N:=2) (cs:=#[.int .i64 a0_0, .int .i64 a0_1, .int .i64 a0_2]) (t:=37) ?_;intro gb1 hg w5 hbox hb;have BK1:=am_ (hbox);have GE1:=am_ ((zg0_ HB hg:w.heap.size≤gb1));replace HB:=am_ (below_step (zl0_ HB) hb);clear hb hbox hg)|((with_reducible refine gate_dst (N:=3) rfl ?_);refine bx_ (N:=3) (cs:=#[.int .i64 a1_0, .int .i64 a1_1, .int .i64 a1_2]) (t:=37) ?_;intro gb2 hg w6 hbox hb;have BK2:=am_ (hbox);have GE2:=am_ ((zg1_ HB GE1 hg:w.heap.size≤gb2));replace HB:=am_ (below_step (zl1_ HB GE1) hb);have NB1_2:=am_ ((zn_ BK1 hg:gb1≠gb2));have NB2_1:=am_ ((zm_ BK1 hg:gb2≠gb1));replace BK1:=bb_ BK1 hb;clear hb hbox hg;have:=NB1_2.out;have:=NB2_1.out;obtain ⟨_,_,_,_,_,_⟩:=y3_ BK1;obtain ⟨_,_,_⟩:=x3_ BK2;obtain ⟨_,_,_⟩:=ff3_ BK2))
 go_ret)
 ·exact ⟨er_,zl2_ HB GE1 GE2⟩
 ·exact ⟨er_,zl2_ HB GE1 GE2⟩
 ·exact ⟨er_,zl2_ HB GE1 GE2⟩

def vec_Most.f:Option (Int×Int×Int):=some (1099511627776,1099511627776,1099511627776)
set_option maxHeartbeats 8000000 in
set_option maxRecDepth 100000 in
theorem vec_Most.calls (r1:Int) (r2:Int) (r3:Int) (w:World) (h:vec_Most.f=some (r1,r2,r3)):
  Calls Try.prog 125 #[] w fun e w'=>e= .returned (.agg #[.int .i64 r1, .int .i64 r2, .int .i64 r3])∧Below w.heap.size w w':=by
 have hu37:=Try.underlying37;have HB:=am_ (Below.refl w.heap.size w);have H:(some (1099511627776,1099511627776,1099511627776))=some (r1,r2,r3):=h;clear h;simp only [Option.some.injEq,Prod.mk.injEq] at H;obtain ⟨rfl,rfl,rfl⟩:=H;go_enter Try.func125,Try.ntmps125;go_wp2_with (first|((with_reducible refine gate_dst (N:=0) rfl ?_);refine bx_ (N:=0) (cs:=#[.int .i64 0, .int .i64 0, .int .i64 0]) (t:=37) ?_;intro gb1 hg w1 hbox hb;have BK1:=am_ (hbox);have GE1:=am_ ((zg0_ HB hg:w.heap.size≤gb1));replace HB:=am_ (below_step (zl0_ HB) hb);clear hb hbox hg;obtain ⟨_,_,_⟩:=x3_ BK1;obtain ⟨_,_,_⟩:=ff3_ BK1))
 refine bodyPost_ret (results_cell_row rfl _ _ gb1 37 #[.int .i64 1099511627776, .int .i64 1099511627776, .int .i64 1099511627776] (0,0) _ rfl (zw_ BK1) Try.underlying37 rfl (by kernel_rfl)) rfl ?_;exact ⟨er_,zl1_ HB GE1⟩

def vec_May.f (a0_0:Int) (a0_1:Int) (a0_2:Int):Option (Bool):=(vec_Le.f 0 0 0 a0_0 a0_1 a0_2).bind fun t2=>(if t2=true then ((vec_Most.f).bind fun bt3=>((vec_Le.f a0_0 a0_1 a0_2 bt3.1 bt3.2.1 bt3.2.2).bind fun t6=>(some t6))) else (some false))
def vec_May.T1:Bool×List (List Nat×List Nat):=(true,[([],[]),([],[]),([0,1],[0,1]),([2,2],[2]),([3],[3]),([3,3],[3]),([4,5,5,3],[3,4,5]),([3,6],[3,6]),([7,6,0,1,2,3,4,5,6,7],[7])])
def vec_May.B1:List Nat:=[0,0,3,7,15,15,63,127,255]
theorem vec_May.tab1:rtab .any (opsOf Try.f111 1)=vec_May.T1:=by kernel_rfl
theorem vec_May.bits1:waitsOk vec_May.T1.2 vec_May.B1=true:=by kernel_rfl
set_option maxHeartbeats 8000000 in
set_option maxRecDepth 100000 in
theorem vec_May.calls (a0_0:Int) (a0_1:Int) (a0_2:Int) (r:Bool) (w:World) (h:vec_May.f a0_0 a0_1 a0_2=some r):
  Calls Try.prog 111 #[.agg #[.int .i64 a0_0, .int .i64 a0_1, .int .i64 a0_2]] w fun e w'=>e= .returned (.bool r)∧Below w.heap.size w w':=by
 have hu37:=Try.underlying37;have HB:=am_ (Below.refl w.heap.size w);have H:((vec_Le.f 0 0 0 a0_0 a0_1 a0_2).bind fun t2=>(if t2=true then ((vec_Most.f).bind fun bt3=>((vec_Le.f a0_0 a0_1 a0_2 bt3.1 bt3.2.1 bt3.2.2).bind fun t6=>(some t6))) else (some false)))=some r:=h;clear h;replace H:=zbd_ H;obtain ⟨t2,A2,H⟩:=H;try dsimp only at H
 by_cases c3:t2=true;subst c3;rw [if_pos rfl] at H;replace H:=zbd_ H;obtain ⟨⟨t3,t4,t5⟩,A4,H⟩:=H;try dsimp only at H
 replace H:=zbd_ H;obtain ⟨t6,A5,H⟩:=H;try dsimp only at H
 obtain rfl:=Option.some.inj H;rotate_left;replace c3:=Bool.eq_false_iff.mpr c3;subst c3;rw [if_neg (show¬(false=true) by decide)] at H;obtain rfl:=Option.some.inj H;rotate_left
 all_goals (
 go_enter Try.func111,Try.ntmps111;try go_wp2_with (first|((with_reducible refine gate_dst (N:=1) rfl ?_);refine bx_ (N:=1) (cs:=#[.int .i64 a0_0, .int .i64 a0_1, .int .i64 a0_2]) (t:=37) ?_;intro gb1 hg w6 hbox hb;have BK1:=am_ (hbox);have GE1:=am_ ((zg0_ HB hg:w.heap.size≤gb1));replace HB:=am_ (below_step (zl0_ HB) hb);clear hb hbox hg))
 replace BK1:=am_ (blk_drew BK1.out);replace HB:=am_ (below_drew1 HB.out);refine start_ (n:=9) (S:=fun w'=>w'.cell? ⟨gb1,0,none⟩=some (.int .i64 a0_0)∧w'.cell? ⟨gb1,1,none⟩=some (.int .i64 a0_1)∧w'.cell? ⟨gb1,2,none⟩=some (.int .i64 a0_2)) (ds:=[]) (bs_ 9 0) (by kernel_rfl) rfl rfl ⟨(blk_cell BK1.out 0).trans rfl,(blk_cell BK1.out 1).trans rfl,(blk_cell BK1.out 2).trans rfl⟩ (fun hHeld=> ?_);refine with_tabW vec_May.tab1 vec_May.bits1 (fun HT_ HW_=> ?_);generalize w6.drew=w7 at BK1 HB hHeld ⊢;refine qu_ HT_ ?_;refine qk_ HT_ HW_ hHeld ?_;refine on_ (i:=2) (N:=some 5) (bs_ 9 3) HT_ (fun K hK=> ?_);refine gs_ Try.func114 #[.agg #[.int .i64 0, .int .i64 0, .int .i64 0], .agg #[.int .i64 a0_0, .int .i64 a0_1, .int .i64 a0_2]] ?_
 with_reducible refine (vec_Le.calls 0 0 0 a0_0 a0_1 a0_2 _ _ A2.out).mono ?_
 rintro e w8 ⟨rfl,hb⟩;refine ⟨_,rfl, ?_⟩;replace BK1:=bb_ BK1 hb;replace HB:=am_ (below_step (zl1_ HB GE1) hb);(try clear hb);refine hK.out _ _ ⟨(blk_cell BK1.out 0).trans rfl,(blk_cell BK1.out 1).trans rfl,(blk_cell BK1.out 2).trans rfl⟩ (fun hHeld=> ?_);clear hK K;refine no_ (N:=some 5) ?_;refine pu_ (i:=3) (N:=some 6) (bs_ 9 4) HT_ ?_)
 ·refine tk_ (i:=4) (N:=some 7) (bs_ 9 5) HT_ HW_ hHeld ?_;refine on_ (i:=5) (N:=some 8) (bs_ 9 6) HT_ (fun K hK=> ?_);refine gs_ Try.func125 #[] ?_
  with_reducible refine (vec_Most.calls t3 t4 t5 _ A4.out).mono ?_
  rintro e w9 ⟨rfl,hb⟩;refine ⟨_,rfl, ?_⟩;replace BK1:=bb_ BK1 hb;replace HB:=am_ (below_step (zl1_ HB GE1) hb);(try clear hb);refine hK.out _ _ ⟨(blk_cell BK1.out 0).trans rfl,(blk_cell BK1.out 1).trans rfl,(blk_cell BK1.out 2).trans rfl⟩ (fun hHeld=> ?_);clear hK K;refine no_ (N:=some 8) ?_;refine on_ (i:=6) (N:=some 9) (bs_ 9 7) HT_ (fun K hK=> ?_);refine gs_ Try.func114 #[.agg #[.int .i64 a0_0, .int .i64 a0_1, .int .i64 a0_2], .agg #[.int .i64 t3, .int .i64 t4, .int .i64 t5]] ?_
  with_reducible refine (vec_Le.calls a0_0 a0_1 a0_2 t3 t4 t5 t6 _ A5.out).mono ?_
  rintro e w10 ⟨rfl,hb⟩;refine ⟨_,rfl, ?_⟩;replace BK1:=bb_ BK1 hb;replace HB:=am_ (below_step (zl1_ HB GE1) hb);(try clear hb);refine hK.out _ _ ⟨(blk_cell BK1.out 0).trans rfl,(blk_cell BK1.out 1).trans rfl,(blk_cell BK1.out 2).trans rfl⟩ (fun hHeld=> ?_);clear hK K;refine no_ (N:=some 9) ?_;(iterate 2 refine qu_ HT_ ?_);refine done_ (done_of HT_.out (by kernel_rfl)) ?_;try go_wp2
  go_ret
  exact ⟨er_,zl1_ HB GE1⟩
 ·refine pn_ (i:=4) (N:=some 7) (bs_ 9 5) HT_ ?_;(iterate 2 refine qn_ HT_ ?_);(iterate 2 refine qu_ HT_ ?_);refine done_ (done_of HT_.out (by kernel_rfl)) ?_;try go_wp2
  go_ret
  exact ⟨er_,zl1_ HB GE1⟩

def fidx {α:Type} (p:α→Bool):List α→Int→Int
 |[],_=> -1
 |x::l,i=>if p x=true then i else fidx p l (i+1)
theorem fidx_drop {α:Type} (p:α→Bool) (z:α) (l:List α) (i:Nat) (h:i<l.length):fidx p (l.drop i) i=if p (l.getD i z)=true then (i:Int) else fidx p (l.drop (i+1)) ((i+1:Nat):Int):=by
 rw [List.drop_eq_getElem_cons h,List.getD_eq_getElem?_getD,List.getElem?_eq_getElem h]
 rfl
def itemCells (x:S79):Array Value:=#[.string x.f0, .string x.f1, .int .i64 x.f2.f0, .int .i64 x.f2.f1, .int .i64 x.f2.f2, .int .i64 x.f3.f0, .int .i64 x.f3.f1, .int .i64 x.f3.f2, .int .i64 x.f4.f0, .int .i64 x.f4.f1, .int .i64 x.f4.f2, .int .i64 x.f5]
set_option maxHeartbeats 1000000 in
set_option maxRecDepth 100000 in
theorem idxItem_calls (g:Nat) (lb:Array Value) (p:S79→Bool) (eg: ∀args w,(callFunc g args).run Try.prog w= .ok (.enter g args) w) (w:World)
    (hp: ∀W x,Below w.heap.size w W→Calls Try.prog g (#[.agg (itemCells x)]++lb) W fun e w'=>e= .returned (.bool (p x))∧Below W.heap.size W w')
    (A:Option Addr) (c:Nat) (l:List S79) (hr0:Kd.C k79 w A l.length l) (hc0:l.length≤c):
    Calls Try.prog 121 #[.slice A l.length c, .func (.func g) #[] lb] w fun e w'=>e= .returned (.int .i64 (fidx p l 0))∧Below w.heap.size w w':=by
  have hu79:=Try.underlying79;have HR0:=Aside0.mk hr0;have HP:=Aside0.mk hp;have HEG:=Aside0.mk eg;have hm:l.length≤9223372036854775807:=hr0.2.1;clear hr0 hp eg;go_enter Try.func121,Try.ntmps121;go_wp2
  go_loopg [5,8] l.length (fun kq s5 s8 wr=> ∃i:Nat,i≤l.length∧l.length - i≤kq∧s8= .int .i64 i∧Aside0 (Below w.heap.size w wr)∧Aside0 (fidx p l 0=fidx p (l.drop i) i))
  case atStart=>exact ⟨0,by omega,by omega,rfl,⟨Below.refl _ _⟩,⟨rfl⟩⟩
  case round=>
    obtain ⟨i,hi,hg,rfl,HB,HF⟩:=hrel;by_cases hlt:i<l.length;rotate_left
    · obtain rfl : i = l.length := by omega
      go_wp2
      go_ret
      refine ⟨?_,HB.out⟩
      rw [HF.out,List.drop_length]
      rfl


    have hltz:(i:Int)<(l.length:Int):=by omega
    obtain ⟨ad,e1,h0,h1,h2,h3,h4,h5,h6,h7,h8,h9,h10,h11⟩:=at_T79 HR0.out (i:Int) (by omega) (by omega);cases e1;simp only [Int.toNat_natCast] at h0 h1 h2 h3 h4 h5 h6 h7 h8 h9 h10 h11;replace h0:=zx_ HB h0;replace h1:=zx_ HB h1;replace h2:=zx_ HB h2;replace h3:=zx_ HB h3;replace h4:=zx_ HB h4;replace h5:=zx_ HB h5;replace h6:=zx_ HB h6;replace h7:=zx_ HB h7;replace h8:=zx_ HB h8;replace h9:=zx_ HB h9;replace h10:=zx_ HB h10;replace h11:=zx_ HB h11;have hd:Aside0 _:=⟨fidx_drop p z79 l i hlt⟩;have HC:=am_ (HP.out wr (rd_T79 l i) HB.out);generalize hy:rd_T79 l i=y at h0 h1 h2 h3 h4 h5 h6 h7 h8 h9 h10 h11 HC;have hq:p (l.getD i z79)=p y:=by rw [←hy];simp [rd_T79]
    have HQ:=Aside0.mk hq;clear hy hq;have eg:=HEG.out
    cases hb:p y with
    | true =>
      rw [hb] at HC HQ;clear hb;go_wp2_with (go_at_fn g;refine HC.out.mono ?_;rintro e w' ⟨rfl,hb'⟩;have HB':=am_ (below_step HB.out hb');clear hb')
      go_ret
      refine ⟨?_,HB'.out⟩;rw [HF.out,hd.out,HQ.out]
      rfl
    | false =>
      rw [hb] at HC HQ;clear hb;go_wp2_with (go_at_fn g;refine HC.out.mono ?_;rintro e w' ⟨rfl,hb'⟩;have HB':=am_ (below_step HB.out hb');clear hb')
      go_roundg (l.length - (i+1))
      case measure=>omega
      case rel=>exact ⟨i+1,by omega,by omega,by go_num,HB',⟨by rw [HF.out,hd.out,HQ.out];rfl⟩⟩
set_option maxHeartbeats 1000000 in
set_option maxRecDepth 100000 in
theorem treeFind1_calls (W:World) (b:Nat) (nm:ByteArray) (hb:W.heap[b]?=some (.cells #[.string nm] 9 (0,0))) (x:S79):
  Calls Try.prog 122 #[.agg (itemCells x), .pointer (some ⟨b,0,none⟩)] W fun e w'=>e= .returned (.bool (x.f0.toList==nm.toList))∧Below W.heap.size W w':=by
 unfold itemCells
 have hu79:=Try.underlying79
 have h0:=(blk_cell hb 0).trans rfl
 have hl:b<W.heap.size:=blk_lt hb
 clear hb
 go_enter Try.func122,Try.ntmps122
 go_wp2
 go_ret
 exact ⟨rfl,by repeat (first|(with_reducible first|exact Below.refl _ _|apply below_alloc|apply pw_below_drewN|apply below_drew1))⟩
def tree_Find.f (l0:List (S79)) (a1:ByteArray):Option Int:=some (fidx (fun x=>x.f0.toList==a1.toList) l0 0)
set_option maxHeartbeats 1000000 in
set_option maxRecDepth 100000 in
theorem tree_Find.calls (A0:Option Addr) (c0:Nat) (l0:List (S79)) (a1:ByteArray) (r:Int) (w:World) (hr0:Kd.C k79 w A0 l0.length l0) (hc0:l0.length≤c0) (h:tree_Find.f l0 a1=some r):
  Calls Try.prog 91 #[.slice A0 l0.length c0, .string a1] w fun e w'=>e= .returned (.int .i64 r)∧Below w.heap.size w w':=by
 have hr:fidx (fun x=>x.f0.toList==a1.toList) l0 0=r:=Option.some.inj h;obtain ⟨W1,hW1⟩: ∃W1,W1=w.alloc (.cells #[.string a1] 9):=⟨_,rfl⟩;have hn:W1.heap[w.heap.size]?=some (.cells #[.string a1] 9 (0,0)):=by rw [hW1];exact blk_new _ _
 have hB:Below w.heap.size w W1:=by rw [hW1];exact below_alloc (Below.refl _ _) _
 have HC:=am_ (idxItem_calls 122 #[.pointer (some ⟨w.heap.size,0,none⟩)] (fun x=>x.f0.toList==a1.toList) (enters_of Try.func122 (by kernel_rfl) rfl) W1 (fun W x hb=>treeFind1_calls W w.heap.size a1 (blk_below hn hb) x) A0 c0 l0 (Kd.C_below hr0 hB) hc0);rw [hr] at HC;have HW:=Aside0.mk hW1;have HB:=Aside0.mk hB;clear hr0 hr hW1 hn hB h;go_enter Try.func91,Try.ntmps91;go_wp2_with fail
 rw [←HW.out];refine HC.out.mono ?_;rintro e w' ⟨rfl,hb⟩;have HB':=am_ (below_step HB.out hb);clear hb;go_wp2
 go_ret
 exact ⟨rfl,HB'.out⟩


def shape_made.f (l0:List (S79)) (a1:ByteArray):Option ((List (S79))×Int):=(slices_Clone_Item.f l0).bind fun t2=>((tree_Find.f l0 a1).bind fun t5=>(some (t2,t5)))
set_option maxHeartbeats 8000000 in
set_option maxRecDepth 100000 in
theorem shape_made.calls (A0:Option Addr) (c0:Nat) (l0:List (S79)) (a1:ByteArray) (r1:List (S79)) (r2:Int) (w:World) (hr0:Kd.C k79 w A0 l0.length l0) (hc0:l0.length≤c0) (h:shape_made.f l0 a1=some (r1,r2)):
  Calls Try.prog 154 #[.slice A0 l0.length c0, .string a1] w fun e w'=> ∃v0_:Value,e= .returned (.agg #[v0_, .int .i64 r2])∧Kd.R k79 79 w' w.heap.size (fun _=>True) v0_ r1∧Below w.heap.size w w':=by
 have hu197:=Try.underlying197;have hu195:=Try.underlying195;have HR0:=Aside0.mk hr0;have HC0:=Aside0.mk hc0;clear hr0 hc0;have HB:=am_ (Below.refl w.heap.size w);have H:((slices_Clone_Item.f l0).bind fun t2=>((tree_Find.f l0 a1).bind fun t5=>(some (t2,t5))))=some (r1,r2):=h;clear h;replace H:=zbd_ H;obtain ⟨t2,A3,H⟩:=H;try dsimp only at H
 replace H:=zbd_ H;obtain ⟨t5,A4,H⟩:=H;try dsimp only at H
 simp only [Option.some.injEq,Prod.mk.injEq] at H;obtain ⟨rfl,rfl⟩:=H;go_enter Try.func154,Try.ntmps154;go_wp2_with (first|((with_reducible refine gate_dst (N:=4) rfl ?_);refine bx_ (N:=4) (cs:=#[.slice none 0 0, .int .i64 0]) (t:=197) ?_;intro gb1 hg w5 hbox hb;have BK1:=am_ (hbox);have GE1:=am_ ((zg0_ HB hg:w.heap.size≤gb1));replace HB:=am_ (below_step (zl0_ HB) hb);clear hb hbox hg)|((with_reducible refine gate_callee (f:=88) rfl ?_);refine gl_ (some 6) Try.func88 #[.slice A0 l0.length c0] ?_;(with_reducible refine (slices_Clone_Item.calls _ _ l0 t2 _ ?side1 ?side2 A3.out).mono ?_);(case side1=>exact zc_ (Kd.C_below HR0.out HB.out));(case side2=>exact HC0.out);rintro e w6 ⟨v3,rfl,ho0,hb⟩;refine ⟨_,rfl, ?_⟩;have HO4:=am_ (Kd.R_lower ho0 (below_size (zl1_ HB GE1)));replace BK1:=bb_ BK1 hb;replace HB:=am_ (below_step (zl1_ HB GE1) hb);(try clear hb ho0);obtain ⟨Ao7,co7,eo7⟩:=Kd.R_slice HO4.out;subst eo7)|((with_reducible refine gate_callee (f:=91) rfl ?_);refine gl_ (some 10) Try.func91 #[.slice A0 l0.length c0, .string a1] ?_;(with_reducible refine (tree_Find.calls _ _ l0 a1 t5 _ ?side1 ?side2 A4.out).mono ?_);(case side1=>exact zc_ (Kd.C_below HR0.out HB.out));(case side2=>exact HC0.out);rintro e w8 ⟨rfl,hb⟩;refine ⟨_,rfl, ?_⟩;replace HO4:=ob_ HO4 hb;replace BK1:=bb_ BK1 hb;replace HB:=am_ (below_step (zl1_ HB GE1) hb);(try clear hb);obtain ⟨_,_⟩:=x2_ BK1;obtain ⟨_,_⟩:=ff2_ BK1))
 refine bodyPost_ret (results_cell_row rfl _ _ gb1 197 #[.slice Ao7 t2.length co7, .int .i64 t5] (0,0) _ rfl (zw_ BK1) Try.underlying197 rfl (by kernel_rfl)) rfl ?_;exact ⟨_,er_,zy_ HO4 BK1,zl1_ HB GE1⟩

def shape_change_parent.f (l0_0:List (S79)) (a0_1:Int) (a1:ByteArray):Option (Bool):=if a1.toList=([]:List UInt8) then (some true) else ((tree_Find.f l0_0 a1).bind fun t2=>(some (decide (t2≥0))))
set_option maxHeartbeats 8000000 in
set_option maxRecDepth 100000 in
theorem shape_change_parent.calls (A0_0:Option Addr) (c0_0:Nat) (l0_0:List (S79)) (a0_1:Int) (a1:ByteArray) (r:Bool) (w:World) (hr0_0:Kd.C k79 w A0_0 l0_0.length l0_0) (hc0_0:l0_0.length≤c0_0) (h:shape_change_parent.f l0_0 a0_1 a1=some r):
  Calls Try.prog 155 #[.agg #[.slice A0_0 l0_0.length c0_0, .int .i64 a0_1], .string a1] w fun e w'=>e= .returned (.bool r)∧Below w.heap.size w w':=by
 have hu197:=Try.underlying197;have HR0_0:=Aside0.mk hr0_0;have HC0_0:=Aside0.mk hc0_0;clear hr0_0 hc0_0;have HB:=am_ (Below.refl w.heap.size w);have H:(if a1.toList=([]:List UInt8) then (some true) else ((tree_Find.f l0_0 a1).bind fun t2=>(some (decide (t2≥0)))))=some r:=h;clear h;by_cases c3:a1.toList=([]:List UInt8);rw [if_pos c3] at H;have c3b0:=beq_iff_eq.mpr c3;have c3b1:=bne_eq_false_iff_eq.mpr c3;clear c3;obtain rfl:=Option.some.inj H;rotate_left;rw [if_neg c3] at H;have c3b0:=beq_eq_false_iff_ne.mpr c3;have c3b1:=bne_iff_ne.mpr c3;replace H:=zbd_ H;obtain ⟨t2,A5,H⟩:=H;try dsimp only at H
 obtain rfl:=Option.some.inj H;rotate_left
 all_goals (
 go_enter Try.func155,Try.ntmps155;go_wp2_with (first|((with_reducible refine gate_dst (N:=2) rfl ?_);refine bx_ (N:=2) (cs:=#[.slice A0_0 l0_0.length c0_0, .int .i64 a0_1]) (t:=197) ?_;intro gb1 hg w4 hbox hb;have BK1:=am_ (hbox);have GE1:=am_ ((zg0_ HB hg:w.heap.size≤gb1));replace HB:=am_ (below_step (zl0_ HB) hb);clear hb hbox hg;(try (obtain ⟨_,_⟩:=x2_ BK1;obtain ⟨_,_⟩:=ff2_ BK1)))|(go_at_call 91;(with_reducible refine (tree_Find.calls _ _ l0_0 a1 t2 _ ?side1 ?side2 A5.out).mono ?_);(case side1=>exact zc_ (Kd.C_below HR0_0.out HB.out));(case side2=>exact HC0_0.out);rintro e w8 ⟨rfl,hb⟩;replace BK1:=bb_ BK1 hb;replace HB:=am_ (below_step (zl1_ HB GE1) hb);(try clear hb)))
 go_ret)
 ·exact ⟨er_,zl1_ HB GE1⟩
 ·exact ⟨er_,zl1_ HB GE1⟩

theorem sh_head {α:Type} {d:Kd α} {e base:Nat} {ok:Nat→Prop} {w:World} {v:Value} {xs:List α} (h:d.R e w base ok v xs) (hn:0<xs.length): ∃(g c:Nat),v= .slice (some ⟨g,0,none⟩) xs.length c∧base≤g∧g<w.heap.size:=by
  obtain ⟨_,inner,⟨_,h|⟨g,cap,cur,rfl,hg,hh,_⟩⟩,_⟩:=h
  · omega
  exact ⟨g,cap,rfl,hg,blk_lt hh⟩
def shCells (y:S79):List Value:=[.string y.f0, .string y.f1, .int .i64 y.f2.f0, .int .i64 y.f2.f1, .int .i64 y.f2.f2, .int .i64 y.f3.f0, .int .i64 y.f3.f1, .int .i64 y.f3.f2, .int .i64 y.f4.f0, .int .i64 y.f4.f1, .int .i64 y.f4.f2, .int .i64 y.f5]
theorem sh_cells {base:Nat} {w:World} {g c:Nat} {l:List S79} (h:Kd.R k79 79 w base (fun _=>True) (.slice (some ⟨g,0,none⟩) l.length c) l) (j:Int) (h0:0≤j) (h1:j<(l.length:Int)):
  ∀j' u,(shCells (rd_T79 l j))[j']?=some u→w.cell? ⟨g,j.toNat*12+j',none⟩=some u:=by
 obtain ⟨ad2,cc,e3,hcl,hK,hcc0⟩:=Kd.C_get (Kd.R_reads' h).2.2 z79 j h0 h1
 cases e3
 have hcc: ∀j' u,cc[j']?=some u→w.cell? (Addr.add ⟨g,0,none⟩ (j.toNat*12+j'))=some u:=hcc0
 obtain rfl:=k79_open hK
 intro j' u hu
 have:=hcc j' u hu
 rwa [Addr.add_lit,Nat.zero_add] at this
set_option maxHeartbeats 1000000 in
set_option maxRecDepth 100000 in
theorem shapeItem_calls (W:World) (ad:Addr) (n c:Nat) (j:Int) (h0:0≤j) (h1:j<(n:Int)):
  Calls Try.prog 159 #[.agg #[.slice (some ad) n c, .int .i64 j]] W fun e w'=>e= .returned (.pointer (some (ad.add (j.toNat*12))))∧Below W.heap.size W w':=by
 have hu197:=Try.underlying197;have hu195:=Try.underlying195;have q0:=eq_true h0;have q1:=eq_true h1;go_enter Try.func159,Try.ntmps159;go_wp2_with fail
 go_ret
 exact ⟨rfl,below_alloc (Below.refl _ _) _⟩
def guardF (l:List S79) (j ver:Int):Option Int:=if j<0 then some 2 else if j<(l.length:Int) then (if 0≤ver∧(rd_T79 l j).f5≠ver then some 14 else some 0) else none
set_option maxHeartbeats 2000000 in
set_option maxRecDepth 100000 in
theorem shapeGuard_calls (W:World) (base:Nat) (v:Value) (l:List S79) (j ver r:Int) (hr:Kd.R k79 79 W base (fun _=>True) v l) (h:guardF l j ver=some r):
    Calls Try.prog 157 #[.agg #[v, .int .i64 j], .int .i64 ver] W fun e w'=>e= .returned (.int .i64 r)∧Below W.heap.size W w':=by
  have hu197:=Try.underlying197;have hu195:=Try.underlying195;have hu79:=Try.underlying79;have hu37:=Try.underlying37;have HR:=Aside0.mk hr;clear hr;unfold guardF at h;by_cases hj:j<0
  · rw [if_pos hj] at h
    cases h
    have q0:=eq_true hj
    clear hj
    go_enter Try.func157,Try.ntmps157
    go_wp2_with fail
    go_ret
    exact ⟨rfl,below_alloc (Below.refl _ _) _⟩
  rw [if_neg hj] at h;by_cases h1:j<(l.length:Int);rotate_left
  · rw [if_neg h1] at h
    cases h
  rw [if_pos h1] at h;have h0:0≤j:=by omega
  obtain ⟨gb,cap,rfl,hgb,hgl⟩:=sh_head HR.out (by omega);have HC:=sh_cells HR.out j h0 h1;generalize rd_T79 l j=y at HC h;have k0:W.cell? ⟨gb,j.toNat*12+11,none⟩=some (.int .i64 y.f5):=HC 11 _ rfl;have q1:=eq_false hj;have H0:=Aside0.mk h0;have H1:=Aside0.mk h1;have HH:=Aside0.mk h;have HGL:=Aside0.mk hgl;have K0:=Aside0.mk k0;clear HC h hj k0;by_cases hv:0≤ver;rotate_left
  · have q2 := eq_false hv
    have hr0:=HH.out
    rw [if_neg (fun h=>hv h.1)] at hr0
    cases hr0
    go_enter Try.func157,Try.ntmps157
    go_wp2_with fail
    go_ret
    exact ⟨rfl,below_alloc (Below.refl _ _) _⟩
  have q2:=eq_true hv;by_cases hw:y.f5=ver;subst hw;have hr0:=HH.out;rw [if_neg (by simp)] at hr0;cases hr0;rotate_left;have hr0:=HH.out;rw [if_pos ⟨hv,hw⟩] at hr0;cases hr0;have q3:=eq_false hw;rotate_left
  all_goals (
  go_enter Try.func157,Try.ntmps157;go_wp2_with (go_at_call 159;refine (shapeItem_calls _ ⟨gb,0,none⟩ l.length cap j H0.out H1.out).mono ?_;rintro e w3 ⟨rfl,hb⟩;have HB3:=am_ (below_then (below_alloc (Below.refl W.heap.size W) _) (by simp) hb);have k3:=(HB3.out.cell (p:=⟨gb,j.toNat*12+11,none⟩) HGL.out).trans K0.out;clear hb)
  go_ret
  exact ⟨rfl,HB3.out⟩)
def verF (y:S79):S79:=⟨y.f0,y.f1,y.f2,y.f3,y.f4,wrap64 (y.f5+1)⟩
def olderF (l:List S79) (j:Int):Option (Int×List S79):=if 0≤j∧j<(l.length:Int) then (if (rd_T79 l j).f5≥9007199254740992 then some (4,l) else some (0,l.set j.toNat (verF (rd_T79 l j)))) else none
structure Turned (W w':World) (base:Nat) (v:Value):Prop where
 below:Below base W w'
 block: ∀(k:Nat) o,W.heap[k]?=some o→some k≠v.ownBlock→w'.heap[k]?=some o
theorem Turned.of_below {W w':World} {base:Nat} {v:Value} (h:Below W.heap.size W w') (hb:base≤W.heap.size):Turned W w' base v:=⟨⟨h.os,h.tape,h.output,h.size,fun k hk=>h.block k (Nat.lt_of_lt_of_le hk hb)⟩,fun k o hk _=>blk_below hk h⟩
theorem Turned.then_grown {W w1 w2:World} {base g n c:Nat} (h:Turned W w1 base (.slice (some ⟨g,0,none⟩) n c)) (hb:base≤W.heap.size) (hg0:base≤g) (hg:w1.grownBy w2 (some g)):Turned W w2 base (.slice (some ⟨g,0,none⟩) n c):=
 ⟨pw_below_grown h.below (some g) (Nat.le_trans hb h.below.size) hg (fun k e=>by cases e;exact hg0),fun b o hk hn=>blk_grown (h.block b o hk hn) hg (by intro e;cases e;exact hn rfl)⟩
set_option maxHeartbeats 2000000 in
set_option maxRecDepth 100000 in
theorem shapeOlder_calls (W:World) (base:Nat) (v:Value) (l r2:List S79) (j r1:Int) (hr:Kd.R k79 79 W base (fun _=>True) v l) (hbase:base≤W.heap.size) (h:olderF l j=some (r1,r2)):
    Calls Try.prog 158 #[.agg #[v, .int .i64 j]] W fun e w'=>e= .returned (.int .i64 r1)∧Kd.R k79 79 w' base (fun _=>True) v r2∧Turned W w' base v:=by
  have hu197:=Try.underlying197;have hu195:=Try.underlying195;have hu79:=Try.underlying79;have hu37:=Try.underlying37;have HR:=Aside0.mk hr;have HBS:=Aside0.mk hbase;clear hr hbase;unfold olderF at h;by_cases hj:0≤j∧j<(l.length:Int)
  case neg=>
   rw [if_neg hj] at h;cases h
  rw [if_pos hj] at h;obtain ⟨h0,h1⟩:=hj;obtain ⟨gb,cap,rfl,hgb,hgl⟩:=sh_head HR.out (by omega);have hc0:=sh_cells HR.out j h0 h1;generalize hy:rd_T79 l j=y at hc0 h;have HY:=Aside0.mk hy;clear hy;have k0:W.cell? ⟨gb,j.toNat*12+11,none⟩=some (.int .i64 y.f5):=hc0 11 _ rfl;have H0:=Aside0.mk h0;have H1:=Aside0.mk h1;have HC:=Aside0.mk hc0;have HGL:=Aside0.mk hgl;have HGB:=Aside0.mk hgb;have K0:=Aside0.mk k0;clear k0 h0 h1 hc0 hgl hgb;by_cases hv:y.f5≥9007199254740992;rw [if_pos hv] at h;cases h;have q0:=eq_true hv;rotate_left;rw [if_neg hv] at h;cases h;have q0:=eq_false hv;rotate_left
  all_goals (
  go_enter Try.func158,Try.ntmps158;go_wp2_with (go_at_call 159;refine (shapeItem_calls _ ⟨gb,0,none⟩ l.length cap j H0.out H1.out).mono ?_;rintro e w3 ⟨rfl,hb⟩;have HB3:=am_ (below_then (below_alloc (Below.refl W.heap.size W) _) (by simp) hb);have k3:=(HB3.out.cell (p:=⟨gb,j.toNat*12+11,none⟩) HGL.out).trans K0.out;have BK3:=am_ (blk_below (blk_new W _) hb);obtain ⟨_,_⟩:=xz2_ BK3;clear hb))
  ·go_ret
   exact ⟨rfl,Kd.R_below HR.out HB3.out,Turned.of_below HB3.out HBS.out⟩
  ·clear k3;go_wp2_with (first|(go_at_call 159;refine (shapeItem_calls _ ⟨gb,0,none⟩ l.length cap j H0.out H1.out).mono ?_;rintro e w4 ⟨rfl,hb⟩;have HB4:=am_ (below_then HB3.out (HB3.out.size) hb);have k4:=(HB4.out.cell (p:=⟨gb,j.toNat*12+11,none⟩) HGL.out).trans K0.out;clear hb)|((with_reducible refine gate_store (t:=3) (p:=16) (v:= .tmp 14) rfl ?_);(refine Kd.R_store k79 (w0:=w4) base rfl rfl 3 (.tmp 16) (.tmp 14) rfl 79 (g:=gb) (n:=l.length) (cap:=cap) (o':=j.toNat*12+11) j 11 l (verF y) (.int .i64 (wrap64 (y.f5+1))) [.int .i64 (wrap64 (y.f5+1))] (shCells y) (fun _=>True) (fun _=>False) rfl rfl rfl rfl ?ct ?c1 (Kd.R_below HR.out HB4.out) ?c2 ?c3 rfl ?cc (by show 11+1≤12;omega) ?cM (fun _ h=>h.elim) (Below.refl _ _) ?_);(case ct=>kernel_rfl);(case c1=>intro q hq;simp only [List.mem_cons,List.not_mem_nil,or_false] at hq;rcases hq with rfl;rfl);(case c2=>exact H0.out);(case c3=>exact H1.out);(case cc=>exact fun j' u hu=>(HB4.out.cell (p:=⟨gb,j.toNat*12+j',none⟩) HGL.out).trans (HC.out j' u hu));(case cM=>exact k79_mkM _ _ _ (verF y));intro w5 ho hb hg;have HO5:=Aside0.mk ho;have HG5:=Aside0.mk hg;clear ho hb hg))
   go_ret
   refine ⟨rfl, ?_, ?_⟩
   · exact HO5.out
   exact (Turned.of_below HB4.out HBS.out).then_grown HBS.out HGB.out HG5.out
end Go.Proofs.Ytahidkjncljkaaa.Print

namespace Go.Proofs.Ytahidkjncljkaaa.Print
open Go.RowKit Go.Proofs.YtahidkjncljkaaaW.PrintWords Go.Proofs.YtahidkjncljkaaaW.PrintLast Go.Proofs.YtahidkjncljkaaaW.PrintMore
theorem run_copy_wide {P:Program} (w:World) (dT sT ty elem:TypeId) (sz:Nat) (b o dLen dCap:Nat) (a:Addr) (sLen sCap:Nat) (cs:List Value)
    (hu:P.underlying dT=some (.slice elem)) (hs:(P.info? elem).map (·.size)=some sz) (m:Nat) (hm:Nat.min sLen dLen=m) (hn:cs.length=m*sz)
    (hsrc: ∀j v,cs[j]?=some v→w.cell? (a.add j)=some v) (hc: ∀j,j<cs.length→(w.cell? ⟨b,o+j,none⟩).isSome=true) (hf: ∀j,j<cs.length→w.frozen? ⟨b,o+j,none⟩=false) (h1: ∀v∈cs,v.oneCell'=true):
    (Builtin.copy_ #[dT,sT] ty #[.slice (some ⟨b,o,none⟩) dLen dCap, .slice (some a) sLen sCap]).run P w= .ok (goInt m) (w.setCells b o cs):=by
  have hl:=run_loadCells_list (P:=P) w a cs hsrc
  have hst:=run_storeCells_cells (P:=P) b o cs 0 w (by simpa using hc) (by simpa using hf) h1
  cases hq:P.info? elem with
  |none=>simp [hq] at hs
  | some i =>
    have hi:i.size=sz:=by simpa [hq] using hs
    simp [Builtin.copy_,run_underlying hu,Builtin.lenOf,Builtin.firstCells,sizeOf,typeInfo,hq,hi,hm,←hn,hl,hst]
theorem run_clear_one {P:Program} (w:World) (t e ty:TypeId) (z:Value) (zs:List Value) (ht:P.underlying t=some (.slice e)) (hv: ∀w,(zeroValue e).run P w= .ok z w) (hz:(Builtin.zeroCells z.cells 1).toList=zs) (h1: ∀u∈zs,u.oneCell'=true) (b o c:Nat)
  (hc: ∀j,j<zs.length→(w.cell? ⟨b,o+j,none⟩).isSome=true) (hf: ∀j,j<zs.length→w.frozen? ⟨b,o+j,none⟩=false):
  (Builtin.clear_ #[t] ty #[.slice (some ⟨b,o,none⟩) 1 c]).run P w= .ok (.tuple #[]) (w.setCells b o zs):=by
 have hst:=run_storeCells_cells (P:=P) b o zs 0 w (by simpa using hc) (by simpa using hf) h1;simp only [Nat.add_zero] at hst
 simp [Builtin.clear_,run_underlying ht,hv,hz,hst]
def zCells:List Value:=[.string ⟨#[]⟩, .string ⟨#[]⟩, .int .i64 0, .int .i64 0, .int .i64 0, .int .i64 0, .int .i64 0, .int .i64 0, .int .i64 0, .int .i64 0, .int .i64 0, .int .i64 0]
def flat (l:List S79):List Value:=l.flatMap shCells
theorem shCells_len (y:S79):(shCells y).length=12:=rfl
theorem flat_lenI: ∀l:List S79,(flat l).length=l.length*12
  |[]=>rfl
  | y :: l => by
    show (shCells y++flat l).length=_
    rw [List.length_append,flat_lenI l,shCells_len,List.length_cons]
    omega
theorem flat_append (a b:List S79):flat (a++b)=flat a++flat b:=by simp [flat]
theorem flat_one (l:List S79): ∀u∈flat l,u.oneCell'=true:=by
 intro u hu;obtain ⟨y,_,hy⟩:=List.mem_flatMap.1 hu;simp only [shCells,List.mem_cons,List.not_mem_nil,or_false] at hy
 rcases hy with rfl|rfl|rfl|rfl|rfl|rfl|rfl|rfl|rfl|rfl|rfl|rfl<;>rfl
theorem flat_take (l:List S79) (i:Nat) (h:i≤l.length):(flat l).take (i*12)=flat (l.take i):=by
 have:=flat_append (l.take i) (l.drop i)
 rw [List.take_append_drop] at this;rw [this];exact List.take_left' (by rw [flat_lenI,List.length_take];omega)
theorem flat_drop (l:List S79) (i:Nat) (h:i≤l.length):(flat l).drop (i*12)=flat (l.drop i):=by
 have:=flat_append (l.take i) (l.drop i)
 rw [List.take_append_drop] at this;rw [this];exact List.drop_left' (by rw [flat_lenI,List.length_take];omega)
theorem flat_reps (w:World) (base:Nat) (ok:Nat→Prop): ∀l:List S79,Reps (k79.M w base ok) 12 l (flat l):=by
 intro l;refine ⟨flat_lenI l,fun j p hj=> ?_⟩;have hjl:j<l.length:=(List.getElem?_eq_some_iff.1 hj).1;rw [flat_drop l j (by omega),List.drop_eq_getElem_cons hjl]
 show k79.M w base ok p ((shCells l[j]++flat (l.drop (j+1))).take 12)
 rw [show (12:Nat)=(shCells l[j]).length from rfl,List.take_left];obtain ⟨_,rfl⟩:=List.getElem?_eq_some_iff.1 hj;exact k79_mkM w base ok _
theorem reps_flatI {w:World} {base:Nat} {ok:Nat→Prop} {l:List S79} {cs:List Value} (h:Reps (k79.M w base ok) 12 l cs):cs=flat l:=by
  obtain ⟨hl,hr⟩:=h
  apply List.ext_getElem?
  intro q
  rcases Nat.lt_or_ge q cs.length with hq|hq
  rotate_left
  · rw [List.getElem?_eq_none hq,List.getElem?_eq_none (by rw [flat_lenI,←hl];exact hq)]
  have hj:q / 12<l.length:=by rw [hl] at hq;omega
  have h1:=k79_open (k79.K_of_M (hr (q / 12) _ (List.getElem?_eq_getElem hj)));have h2:=k79_open (k79.K_of_M ((flat_reps w base ok l).2 (q / 12) _ (List.getElem?_eq_getElem hj)));have h3:=congrArg (·[q % 12]?) (h1.trans h2.symm);simp only [List.getElem?_take,List.getElem?_drop,if_pos (show q % 12<12 by omega)] at h3
  rwa [show q / 12*12+q % 12=q by omega] at h3
theorem R_cells {w:World} {base g n c:Nat} {ok:Nat→Prop} {l:List S79} (h:Kd.R k79 79 w base ok (.slice (some ⟨g,0,none⟩) n c) l):
    n=l.length∧base≤g∧n≤c∧c≤9223372036854775807∧ ∃cur,w.heap[g]?=some (.cells cur 79 (0,0))∧cur.size=c*12∧cur.toList.take (l.length*12)=flat l:=by
  obtain ⟨_,inner,⟨_,h|⟨g',cap',cur,hv,hg,hh,hnc,hcm,hcs,ht⟩⟩,hr⟩:=h
  · cases h.1
  cases hv
  have:=reps_flatI hr
  subst this
  exact ⟨rfl,hg,hnc,hcm,cur,hh,hcs,ht⟩
theorem R_of_cells {w:World} {base g c:Nat} {l:List S79} {cur:Array Value} (hg:base≤g) (hnc:l.length≤c) (hcm:c≤9223372036854775807) (hh:w.heap[g]?=some (.cells cur 79 (0,0))) (hcs:cur.size=c*12) (ht:cur.toList.take (l.length*12)=flat l):
  Kd.R k79 79 w base (fun _=>True) (.slice (some ⟨g,0,none⟩) l.length c) l:=
 ⟨fun _ _=>trivial,flat l,⟨flat_lenI l, .inr ⟨g,c,cur,rfl,hg,hh,hnc,hcm,hcs,ht⟩⟩,flat_reps _ _ _ l⟩
theorem Below.setCells_ {a w:World} {base g:Nat} (h:Below base a w) (hg:base≤g) (o:Nat) (vs:List Value):Below base a (w.setCells g o vs):=by
 obtain ⟨s1,s2,s3,s4⟩:=setCells_same g vs o w;exact ⟨s1.trans h.os,s2.trans h.tape,s3.trans h.output,by rw [s4];exact h.size,fun k hk=>(setCells_far vs o k (by omega)).trans (h.block k hk)⟩
theorem plain_there {w:World} {g:Nat} {cur:Array Value} {e:Nat} (h:w.heap[g]?=some (.cells cur e (0,0))) {j:Nat} (hj:j<cur.size):(w.cell? ⟨g,j,none⟩).isSome=true:=by
 rw [blk_cell h j,Array.getElem?_eq_getElem hj]
 rfl
theorem plain_cell {w:World} {g:Nat} {cur:Array Value} {e:Nat} (h:w.heap[g]?=some (.cells cur e (0,0))) {j:Nat} {v:Value} (hj:cur.toList[j]?=some v):w.cell? ⟨g,j,none⟩=some v:=by
 rw [blk_cell h j,←hj,Array.getElem?_toList]
end Go.Proofs.Ytahidkjncljkaaa.Print

namespace Go.Proofs.Ytahidkjncljkaaa.Print
open Go.RowKit Go.Proofs.YtahidkjncljkaaaW.PrintWords Go.Proofs.YtahidkjncljkaaaW.PrintLast Go.Proofs.YtahidkjncljkaaaW.PrintMore
attribute [local go_sem] max2_int min2_int max_two min_two max_three min_three max_four min_four
theorem step_copy {P:Program} {ops:Array Oper} {o:Oper} {a:Act} {w w':World} {K:Act→World→Prop} {Q:Exit→Act→World→Prop} {E:Prop} (hg:o.guard=none) (d x:Operand) (dT sT:TypeId)
  (hop:o.op=Op.call {callee:=Callee.builtin .copy,args:=#[d,x],argTypes:=#[dT,sT]}) (v u:Value) (hd:a.eval d=v) (hx:a.eval x=u) {v':Value}
  (hr:(Builtin.copy_ #[dT,sT] o.type #[v,u]).run P w= .ok v' w') (hK:K (a.put o.dst v') w'):if Region.wanted o (yielded ops a.tmps)=true then Oper.wp P o a w K Q else E:=by
 have hw:Region.wanted o (yielded ops a.tmps)=true:=by simp [Region.wanted,hg]
 rw [if_pos hw];unfold Oper.wp execOp;simp only [hop,resolve,invoke,builtin,Sem.run_bind,Sem.run_pure,Result.andThen_ok,List.map_toArray,List.map_cons,List.map_nil,hd,hx,hr];exact hK
theorem sh_read {w:World} {vb:Nat} {x:S79} (h:w.heap[vb]?=some (.cells (shCells x).toArray 79 (0,0))):Kd.C k79 w (some ⟨vb,0,none⟩) 1 [x]:=
 (Kd.R_reads' (R_of_cells (base:=0) (l:=[x]) (c:=1) (Nat.zero_le _) (Nat.le_refl _) (by decide) h rfl (by simp [flat,shCells]))).2.2
set_option maxHeartbeats 4000000 in
set_option maxRecDepth 100000 in
theorem sliInsert_end (w:World) (base:Nat) (v:Value) (l:List S79) (x:S79) (vb:Nat) (hr:Kd.R k79 79 w base (fun _=>True) v l) (hv:w.heap[vb]?=some (.cells (shCells x).toArray 79 (0,0))) (hbase:base≤w.heap.size) (hlim:l.length<1000000):
    Calls Try.prog 156 #[v, .int .i64 l.length, .slice (some ⟨vb,0,none⟩) 1 1] w fun e w'=> ∃v',e= .returned v'∧Kd.R k79 79 w' base (fun _=>True) v' (l++ [x])∧Below base w w':=by
  have HR:=Aside0.mk hr;have HC:=am_ (sh_read hv);have HB:=am_ (Below.refl base w);obtain ⟨A,c,rfl⟩:=Kd.R_slice hr;have hle:=(Kd.R_reads' hr).2.1;clear hr hv;have HBASE:=Aside0.mk hbase;clear hbase
  cases A with
  | none =>
    go_enter Try.func156,Try.ntmps156;go_wp2_with ((with_reducible refine gate_builtin (b:= .append) (xs:=#[.tmp 23, .tmp 24]) rfl ?_);at_builtin;refine Kd.R_append_rows k79 (w0:=w) base rfl (.tmp 23) (.tmp 24) 46 79 (.agg #[(.string ⟨#[]⟩),(.string ⟨#[]⟩),(.int .i64 0),(.int .i64 0),(.int .i64 0),(.int .i64 0),(.int .i64 0),(.int .i64 0),(.int .i64 0),(.int .i64 0),(.int .i64 0),(.int .i64 0)]) 112 rfl Try.underlying46 info79 rfl (by decide) (by omega) (.slice none l.length c) l [x] _ _ _ (fun _=>True) (fun _=>False) rfl rfl HR.out HC.out (fun _ _ h=>h) (fun _ h=>h.elim) (fun _ _=>trivial) HB.out HBASE.out (by omega) ?_;intro v5 w5 ho hb hg hat;have HO5:=Aside0.mk ho;have HB5:=Aside0.mk hb;clear ho hb hg hat)
    all_goals (go_ret;exact ⟨_,rfl,HO5.out,HB5.out⟩)
  | some ad =>
    go_enter Try.func156,Try.ntmps156;go_wp2_with ((with_reducible refine gate_builtin (b:= .append) (xs:=#[.tmp 23, .tmp 24]) rfl ?_);at_builtin;refine Kd.R_append_rows k79 (w0:=w) base rfl (.tmp 23) (.tmp 24) 46 79 (.agg #[(.string ⟨#[]⟩),(.string ⟨#[]⟩),(.int .i64 0),(.int .i64 0),(.int .i64 0),(.int .i64 0),(.int .i64 0),(.int .i64 0),(.int .i64 0),(.int .i64 0),(.int .i64 0),(.int .i64 0)]) 112 rfl Try.underlying46 info79 rfl (by decide) (by omega) (.slice (some ad) l.length c) l [x] _ _ _ (fun _=>True) (fun _=>False) rfl rfl HR.out HC.out (fun _ _ h=>h) (fun _ h=>h.elim) (fun _ _=>trivial) HB.out HBASE.out (by omega) ?_;intro v5 w5 ho hb hg hat;have HO5:=Aside0.mk ho;have HB5:=Aside0.mk hb;clear ho hb hg hat)
    all_goals (go_ret;exact ⟨_,rfl,HO5.out,HB5.out⟩)
set_option maxHeartbeats 4000000 in
set_option maxRecDepth 100000 in
theorem sliInsert_shift (w:World) (g n c i vb:Nat) (cs vs:List Value) (cur:Array Value) (hh:w.heap[g]?=some (.cells cur 79 (0,0))) (hsz:cur.size=c*12) (hi:i<n) (hroom:n+1≤c) (hc63:c≤9223372036854775807) (hvb:vb≠g)
    (hcs:cur.toList.take (n*12)=cs) (hv:w.heap[vb]?=some (.cells vs.toArray 79 (0,0))) (hvl:vs.length=12) (h1c: ∀u∈cs,u.oneCell'=true) (h1v: ∀u∈vs,u.oneCell'=true):
    Calls Try.prog 156 #[.slice (some ⟨g,0,none⟩) n c, .int .i64 i, .slice (some ⟨vb,0,none⟩) 1 1] w fun e w'=>e= .returned (.slice (some ⟨g,0,none⟩) (n+1) c)∧w'=(w.drew.setCells g ((i+1)*12) (cs.drop (i*12))).setCells g (i*12) vs:=by
  have hcl:cs.length=n*12:=by rw [←hcs,List.length_take,Array.length_toList,hsz];omega
  have hdl:(cs.drop (i*12)).length=(n - i)*12:=by rw [List.length_drop,hcl];omega
  have hget: ∀j u,cs[j]?=some u→w.cell? ⟨g,j,none⟩=some u:=by
    intro j u hu;rw [←hcs,List.getElem?_take] at hu
    split at hu
    · exact plain_cell hh hu
    cases hu
  have hS:(Try.prog.info? 79).map (·.size)=some 12:=by
    obtain ⟨i0,hi0,_,h1,_⟩:=info_parts info79;rw [hi0]
    simp [h1]
  have hov: ∀o lb cb,(callFunc 172 #[.slice (some ⟨vb,0,none⟩) 1 1, .slice (some ⟨g,o,none⟩) lb cb]).run Try.prog w= .ok (.value (.bool false)) w:=fun o lb cb=>by
    rw [run_callFunc_extern Try.func172 (by kernel_rfl) (by kernel_rfl) (by kernel_rfl) (e:=Extern.SlicesOverlaps.overlaps #[46,46] #[4]) (by kernel_rfl),
      Lib.run_overlaps_apart w 46 4 79 Try.underlying46 12 Try.sizeOf79 ⟨vb,0,none⟩ ⟨g,o,none⟩ 1 1 lb cb hvb 79 79 12 (c*12) (by rw [←hvl];simp [World.shape?,hv]) (by rw [←hsz];simp [World.shape?,hh]) (by omega) (blk_frozen hv _) (blk_frozen hv _)]
    rfl
  have hcp1: ∀ty o1 n1 dc o2 n2 sc,o1=(i+1)*12→n1=n - i→o2=i*12→n2=n+1 - i→(Builtin.copy_ #[46,46] ty #[.slice (some ⟨g,o1,none⟩) n1 dc, .slice (some ⟨g,o2,none⟩) n2 sc]).run Try.prog w.drew= .ok (goInt (n - i:Nat)) (w.drew.setCells g ((i+1)*12) (cs.drop (i*12))):=by
    rintro ty _ _ dc _ _ sc rfl rfl rfl rfl
    exact run_copy_wide w.drew _ _ ty 79 12 g ((i+1)*12) (n - i) dc ⟨g,i*12,none⟩ (n+1 - i) sc (cs.drop (i*12)) Try.underlying46 hS (n - i) (by simp only [Nat.min_def];split<;>omega) hdl
      (fun j u hj=>by rw [Addr.add_lit];exact hget (i*12+j) u (by rwa [List.getElem?_drop] at hj))
      (fun j hj=>plain_there (w:=w.drew) (blk_drew hh) (by rw [hdl] at hj;omega)) (fun j hj=>blk_frozen (w:=w.drew) (blk_drew hh) _) (fun u hu=>h1c u (List.mem_of_mem_drop hu))
  obtain ⟨W1,hW1⟩: ∃W1,W1=w.drew.setCells g ((i+1)*12) (cs.drop (i*12)):=⟨_,rfl⟩
  have hg1: ∃cur1,W1.heap[g]?=some (.cells cur1 79 (0,0))∧cur1.size=cur.size:=by
    obtain ⟨cur',a,b,_⟩:=setCells_row (cs.drop (i*12)) ((i+1)*12) w.drew cur (blk_drew hh) (by rw [hdl];omega);exact ⟨cur',by rw [hW1];exact a,b⟩
  obtain ⟨cur1,hg1,hz1⟩:=hg1;have hvb1:W1.heap[vb]?=some (.cells vs.toArray 79 (0,0)):=by rw [hW1,setCells_far _ _ _ hvb];exact blk_drew hv
  have hcp2: ∀ty o1 n1 dc,o1=i*12→n1=n+1 - i→(Builtin.copy_ #[46,46] ty #[.slice (some ⟨g,o1,none⟩) n1 dc, .slice (some ⟨vb,0,none⟩) 1 1]).run Try.prog W1= .ok (goInt (1:Nat)) (W1.setCells g (i*12) vs):=by
    rintro ty _ _ dc rfl rfl
    exact run_copy_wide W1 _ _ ty 79 12 g (i*12) (n+1 - i) dc ⟨vb,0,none⟩ 1 1 vs Try.underlying46 hS 1 (by simp only [Nat.min_def];split<;>omega) (by omega)
      (fun j u hj=>by rw [Addr.add_lit,Nat.zero_add];exact plain_cell hvb1 (by simpa using hj))
      (fun j hj=>plain_there hg1 (by omega)) (fun j hj=>blk_frozen hg1 _) h1v
  have HW:=Aside0.mk hW1;rw [←hW1] at hcp1;have CP1:=Aside0.mk hcp1;have CP2:=Aside0.mk hcp2;have HOV:=Aside0.mk hov;have hz1: ¬((1:Int)=0):=by omega
  have hz2: ¬((i:Int)=(n:Int)):=by omega
  have hz3: ¬((c:Int)<(n:Int)+1):=by omega
  have hin:i≤n:=by omega
  have hz4:(0:Int)≤(i:Int)+1:=by omega
  have hz5:(i:Int)+1≤(n:Int)+1:=by omega
  have hz6:(i:Int)≤(n:Int)+1:=by omega
  have hz7: ¬(c=i+1):=by omega
  have hz8: ¬(c=i):=by omega
  have hw1:IntKind.i64.wrap ((i:Int)+1)=(i:Int)+1:=by rw [IntKind.wrap_i64];omega
  have htn:((i:Int)+1).toNat=i+1:=by omega
  have mixed:Try.prog.follows .mixedOrders=true:=by kernel_rfl
  clear hcl hdl hget hS hov hcp1 hcp2 hW1 hg1 hz1 hvb1 hh hsz hcs hv hvl h1c h1v;go_enter Try.func156,Try.ntmps156;go_wp2_with (rw [HOV.out])
  go_region_law_o (refine step_copy rfl _ _ 46 46 rfl (.slice (some ⟨g,(i+1)*12,none⟩) (n - i) (c - (i+1))) (.slice (some ⟨g,i*12,none⟩) (n+1 - i) (c - i)) (by simp [Act.eval,Act.put]) (by simp [Act.eval,Act.put]) (CP1.out _ _ _ _ _ _ _ rfl rfl rfl rfl) ?_)
  go_wp2_with fail
  rw [CP2.out _ _ _ _ rfl rfl];go_wp2
  go_ret
  refine ⟨rfl, ?_⟩;rw [HW.out]
set_option maxHeartbeats 4000000 in
set_option maxRecDepth 100000 in
theorem sliInsert_grow (w:World) (g n c i vb:Nat) (cs vs:List Value) (cur:Array Value) (hh:w.heap[g]?=some (.cells cur 79 (0,0))) (hsz:cur.size=c*12) (hi:i<n) (hnc:n≤c) (hroom:c<n+1) (hlim:n<1000000)
    (hcs:cur.toList.take (n*12)=cs) (hv:w.heap[vb]?=some (.cells vs.toArray 79 (0,0))) (hvl:vs.length=12) (h1c: ∀u∈cs,u.oneCell'=true) (h1v: ∀u∈vs,u.oneCell'=true):
    Calls Try.prog 156 #[.slice (some ⟨g,0,none⟩) n c, .int .i64 i, .slice (some ⟨vb,0,none⟩) 1 1] w fun e w'=> ∃(G:Nat) (cur':Array Value),e= .returned (.slice (some ⟨w.heap.size,0,none⟩) (n+1) G)∧n+1≤G∧G≤9223372036854775807∧
      w'.heap[w.heap.size]?=some (.cells cur' 79 (0,0))∧cur'.size=G*12∧cur'.toList.take ((n+1)*12)=cs.take (i*12)++vs++cs.drop (i*12)∧Below w.heap.size w w':=by
  have hcl:cs.length=n*12:=by rw [←hcs,List.length_take,Array.length_toList,hsz];omega
  have hdl:(cs.drop (i*12)).length=(n - i)*12:=by rw [List.length_drop,hcl];omega
  have htl:(cs.take (i*12)).length=i*12:=by rw [List.length_take,hcl];omega
  have hget: ∀j u,cs[j]?=some u→w.cell? ⟨g,j,none⟩=some u:=by
    intro j u hu;rw [←hcs,List.getElem?_take] at hu
    split at hu
    · exact plain_cell hh hu
    cases hu
  obtain ⟨i0,hi0,hz0,hzs,hzb⟩:=info_parts info79
  have hS:(Try.prog.info? 79).map (·.size)=some 12:=by
    rw [hi0]
    simp [hzs]
  have hgw:g<w.heap.size:=blk_lt hh;have hvw:vb<w.heap.size:=blk_lt hv;have hkk:(n:Int)+1 - (i:Int)=((n+1 - i:Nat):Int):=by omega
  have hik:i+(n+1 - i)=n+1:=by omega
  have hold:(Builtin.firstCells i0.size i (.slice (some ⟨g,0,none⟩) i c)).run Try.prog w.drew= .ok (cs.take (i*12)).toArray w.drew:=by
    rw [hzs]
    exact run_firstCells_some w.drew 12 i ⟨g,0,none⟩ i c (cs.take (i*12)) htl (fun j u hj=>by
      rw [Addr.add_lit,Nat.zero_add];rw [List.getElem?_take] at hj
      split at hj
      · exact hget j u hj
      cases hj)
  obtain ⟨G,hG⟩: ∃G,G=grownCap w (n+1) c 79:=⟨_,rfl⟩;obtain ⟨ROW,hROW⟩: ∃ROW:Array Value,ROW=(cs.take (i*12)).toArray++Builtin.zeroCells (Value.agg zCells.toArray).cells (n+1 - i)++Builtin.zeroCells (Value.agg zCells.toArray).cells (G - (n+1)):=⟨_,rfl⟩
  have hrz: ∀ty k,k=(n:Int)+1 - (i:Int)→(Builtin.append_ #[46,3] ty #[.slice (some ⟨g,0,none⟩) i c, .int .i64 k]).run Try.prog w=
      .ok (.slice (some ⟨w.heap.size,0,none⟩) (n+1) G) (w.drew.alloc (.cells ROW 79)):=fun ty k hk=>by
    have h:=Lib.run_append_grow_zeros w 46 3 ty 79 i0 _ .i64 .i64 Try.underlying46 Try.underlying3 hi0 hz0 (some ⟨g,0,none⟩) i c (cs.take (i*12)) hold (n+1 - i) (by omega) (by omega) (by omega) (by omega) (by rw [hzb];omega) (by rw [hzb,hik];exact growslice_fits hroom (by omega))
    rw [hik] at h
    rw [hk,hkk,hG,hROW,hG]
    exact h
  have hGn:n+1≤G:=by rw [hG];exact grownCap_ge w _ _ _
  have hG63:G≤9223372036854775807:=by
    have:=grownCap_le_maxLen w (n+1) c 79 (by unfold maxLen;omega)
    rw [←hG] at this;unfold maxLen at this
    omega
  have hRl:ROW.size=G*12:=by
    rw [hROW]
    simp [Builtin.zeroCells,Value.cells,zCells,htl]
    omega
  have hRt:ROW.toList.take (i*12)=cs.take (i*12):=by
    rw [hROW];simp only [Array.toList_append,List.append_assoc];exact List.take_left' htl
  obtain ⟨W1,hW1⟩: ∃W1,W1=w.drew.alloc (.cells ROW 79):=⟨_,rfl⟩;rw [←hW1] at hrz;have hN:W1.heap[w.heap.size]?=some (.cells ROW 79 (0,0)):=by rw [hW1];exact blk_new w.drew _
  have hg1:W1.heap[g]?=some (.cells cur 79 (0,0)):=by rw [hW1];exact blk_alloc (blk_drew hh) _
  have hv1:W1.heap[vb]?=some (.cells vs.toArray 79 (0,0)):=by rw [hW1];exact blk_alloc (blk_drew hv) _
  have hB1:Below w.heap.size w W1:=by rw [hW1];exact below_alloc (below_drew (Below.refl _ _)) _
  have hcpA: ∀ty o1 n1 dc,o1=i*12→n1=n+1 - i→(Builtin.copy_ #[46,46] ty #[.slice (some ⟨w.heap.size,o1,none⟩) n1 dc, .slice (some ⟨vb,0,none⟩) 1 1]).run Try.prog W1= .ok (goInt (1:Nat)) (W1.setCells w.heap.size (i*12) vs):=by
    rintro ty _ _ dc rfl rfl
    exact run_copy_wide W1 _ _ ty 79 12 w.heap.size (i*12) (n+1 - i) dc ⟨vb,0,none⟩ 1 1 vs Try.underlying46 hS 1 (by simp only [Nat.min_def];split<;>omega) (by omega)
      (fun j u hj=>by rw [Addr.add_lit,Nat.zero_add];exact plain_cell hv1 (by simpa using hj))
      (fun j hj=>plain_there hN (by omega)) (fun j hj=>blk_frozen hN _) h1v
  obtain ⟨W2,hW2⟩: ∃W2,W2=W1.setCells w.heap.size (i*12) vs:=⟨_,rfl⟩;rw [←hW2] at hcpA;obtain ⟨R2,hN2,hR2,hT2⟩:=setCells_row vs (i*12) W1 ROW hN (by omega);rw [←hW2] at hN2;have hg2:W2.heap[g]?=some (.cells cur 79 (0,0)):=by rw [hW2,setCells_far _ _ _ (by omega)];exact hg1
  have hB2:Below w.heap.size w W2:=by rw [hW2];exact Below.setCells_ hB1 (Nat.le_refl _) _ _
  have hcpB: ∀ty o1 n1 dc o2 n2 sc,o1=(i+1)*12→n1=n - i→o2=i*12→n2=n - i→(Builtin.copy_ #[46,46] ty #[.slice (some ⟨w.heap.size,o1,none⟩) n1 dc, .slice (some ⟨g,o2,none⟩) n2 sc]).run Try.prog W2.drew= .ok (goInt (n - i:Nat)) (W2.drew.setCells w.heap.size ((i+1)*12) (cs.drop (i*12))):=by
    rintro ty _ _ dc _ _ sc rfl rfl rfl rfl
    exact run_copy_wide W2.drew _ _ ty 79 12 w.heap.size ((i+1)*12) (n - i) dc ⟨g,i*12,none⟩ (n - i) sc (cs.drop (i*12)) Try.underlying46 hS (n - i) (by simp only [Nat.min_def];split<;>omega) hdl
      (fun j u hj=>by
        rw [Addr.add_lit];rw [List.getElem?_drop] at hj;refine plain_cell (w:=W2.drew) (blk_drew hg2) ?_;rw [←hcs,List.getElem?_take] at hj
        split at hj
        · exact hj
        cases hj)
      (fun j hj=>plain_there (w:=W2.drew) (blk_drew hN2) (by rw [hdl] at hj;omega)) (fun j hj=>blk_frozen (w:=W2.drew) (blk_drew hN2) _) (fun u hu=>h1c u (List.mem_of_mem_drop hu))
  obtain ⟨W3,hW3⟩: ∃W3,W3=W2.drew.setCells w.heap.size ((i+1)*12) (cs.drop (i*12)):=⟨_,rfl⟩;rw [←hW3] at hcpB;obtain ⟨R3,hN3,hR3,hT3⟩:=setCells_row (cs.drop (i*12)) ((i+1)*12) W2.drew R2 (blk_drew hN2) (by omega);rw [←hW3] at hN3;have hB3:Below w.heap.size w W3:=by rw [hW3];exact Below.setCells_ (below_drew hB2) (Nat.le_refl _) _ _
  have hFin:R3.toList.take ((n+1)*12)=cs.take (i*12)++vs++cs.drop (i*12):=by
    have e1:R2.toList.take ((i+1)*12)=cs.take (i*12)++vs:=by
      rw [hT2,hRt];exact List.take_left' (by simp only [List.length_append,htl,hvl];omega)
    rw [hT3,e1];exact List.take_left' (by simp only [List.length_append,htl,hvl,hdl];omega)
  have hz1: ¬((1:Int)=0):=by omega
  have hz2: ¬((i:Int)=(n:Int)):=by omega
  have hz3:(c:Int)<(n:Int)+1:=by omega
  have hin:i≤n:=by omega
  have hz4:(0:Int)≤(i:Int)+1:=by omega
  have hz5:(i:Int)+1≤(n:Int)+1:=by omega
  have hz6:(i:Int)≤(n:Int)+1:=by omega
  have hz7: ¬(G=i+1):=by omega
  have hz8: ¬(G=i):=by omega
  have hz9: ¬(c=i):=by omega
  have hw1:IntKind.i64.wrap ((i:Int)+1)=(i:Int)+1:=by rw [IntKind.wrap_i64];omega
  have hw2:IntKind.i64.wrap ((n:Int)+1)=(n:Int)+1:=by rw [IntKind.wrap_i64];omega
  have hw3:IntKind.i64.wrap ((n:Int)+1 - (i:Int))=(n:Int)+1 - (i:Int):=by rw [IntKind.wrap_i64];omega
  have htn:((i:Int)+1).toNat=i+1:=by omega
  have hic:i≤c:=by omega
  have mixed:Try.prog.follows .mixedOrders=true:=by kernel_rfl
  have RZ:=Aside0.mk hrz;have CA:=Aside0.mk hcpA;have CB:=Aside0.mk hcpB;have E1:=Aside0.mk hGn;have E2:=Aside0.mk hG63;have E3:=Aside0.mk hN3;have E4:=am_ (show R3.size=G*12 by omega);have E5:=Aside0.mk hFin;have E6:=Aside0.mk hB3;clear hcl hdl htl hget hi0 hz0 hzs hzb hS hgw hvw hkk hik hold hG hROW hrz hRl hRt hW1 hN hg1 hv1 hB1 hcpA hW2 hN2 hR2 hT2 hg2 hB2 hcpB hW3 hN3 hR3 hT3 hB3 hFin hh hsz hcs hv hvl h1c h1v hGn hG63 i0 ROW R2;go_enter Try.func156,Try.ntmps156;go_wp2_with ((with_reducible refine gate_builtin (b:= .append) (xs:=#[.tmp 34, .tmp 39]) rfl ?_);at_builtin;refine Lib.wpList_append_run _ rfl _ _ _ _ rfl _ _ rfl rfl _ _ (RZ.out _ _ rfl) ?_)
  rw [CA.out _ _ _ _ rfl rfl];go_wp2_with fail
  go_region_law_o (refine step_copy rfl _ _ 46 46 rfl (.slice (some ⟨w.heap.size,(i+1)*12,none⟩) (n - i) (G - (i+1))) (.slice (some ⟨g,i*12,none⟩) (n - i) (c - i)) (by simp [Act.eval,Act.put]) (by simp [Act.eval,Act.put]) (CB.out _ _ _ _ _ _ _ rfl rfl rfl rfl) ?_)
  go_wp2_with fail
  go_ret
  exact ⟨G,R3,rfl,E1.out,E2.out,E3.out,E4.out,E5.out,E6.out⟩
theorem Below.lower_ {a w:World} {b base:Nat} (h:Below b a w) (hb:base≤b):Below base a w:=⟨h.os,h.tape,h.output,h.size,fun k hk=>h.block k (Nat.lt_of_lt_of_le hk hb)⟩
theorem sliInsert_calls (w:World) (base:Nat) (v:Value) (l:List S79) (i:Nat) (x:S79) (vb:Nat) (hr:Kd.R k79 79 w base (fun _=>True) v l) (hi:i≤l.length) (hv:w.heap[vb]?=some (.cells (shCells x).toArray 79 (0,0))) (hvb:v.ownBlock≠some vb) (hbase:base≤w.heap.size) (hlim:l.length<1000000):
    Calls Try.prog 156 #[v, .int .i64 i, .slice (some ⟨vb,0,none⟩) 1 1] w fun e w'=> ∃v',e= .returned v'∧Kd.R k79 79 w' base (fun _=>True) v' (l.take i++x::l.drop i)∧Below base w w':=by
  rcases Nat.eq_or_lt_of_le hi with rfl|hlt
  · rw [List.take_length, List.drop_length]
    exact sliInsert_end w base v l x vb hr hv hbase hlim
  obtain ⟨g,c,rfl,hg,hgl⟩:=sh_head hr (by omega)
  obtain ⟨_,_,hnc,hcm,cur,hh,hcs,ht⟩:=R_cells hr
  have h1v: ∀u∈shCells x,u.oneCell'=true:=fun u hu=>flat_one [x] u (by simpa [flat] using hu)
  have h1c: ∀u∈flat l,u.oneCell'=true:=flat_one l
  have hvg:vb≠g:=by rintro rfl;exact hvb (by simp [Value.ownBlock])
  have hll:(l.take i++x::l.drop i).length=l.length+1:=by simp;omega
  have hfl:flat (l.take i++x::l.drop i)=(flat l).take (i*12)++shCells x++(flat l).drop (i*12):=by
    rw [flat_append,flat_take l i hi,flat_drop l i hi,List.append_assoc]
    rfl
  by_cases hroom:l.length+1≤c
  rotate_left
  · refine (sliInsert_grow w g l.length c i vb (flat l) (shCells x) cur hh hcs hlt hnc (by omega) hlim ht hv rfl h1c h1v).mono ?_
    rintro e w' ⟨G,cur',rfl,h1,h2,h3,h4,h5,h6⟩
    refine ⟨_,rfl, ?_,Below.lower_ h6 hbase⟩
    have:=R_of_cells (l:=l.take i++x::l.drop i) hbase (by rw [hll];omega) h2 h3 h4 (by rw [hll,hfl,h5])
    rw [hll] at this
    exact this
  refine (sliInsert_shift w g l.length c i vb (flat l) (shCells x) cur hh hcs hlt hroom hcm hvg ht hv rfl h1c h1v).mono ?_
  rintro e w' ⟨rfl,rfl⟩
  have hlc:(l.length+1)*12≤cur.size:=by rw [hcs];exact Nat.mul_le_mul_right _ hroom
  have hl1:((flat l).drop (i*12)).length=(l.length - i)*12:=by rw [List.length_drop,flat_lenI];omega
  obtain ⟨cur1,h1,s1,t1⟩:=setCells_row ((flat l).drop (i*12)) ((i+1)*12) w.drew cur (blk_drew hh) (by rw [hl1];omega)
  obtain ⟨cur2,h2,s2,t2⟩:=setCells_row (shCells x) (i*12) _ cur1 h1 (by rw [s1];show _+12≤_;omega)
  refine ⟨_,rfl, ?_,Below.setCells_ (Below.setCells_ (below_drew (Below.refl _ _)) hg _ _) hg _ _⟩
  have:=R_of_cells (l:=l.take i++x::l.drop i) hg (by rw [hll];omega) hcm h2 (by rw [s2,s1,hcs]) (by
    rw [hll,hfl,t2]
    have e1:cur1.toList.take (i*12)=(flat l).take (i*12):=by
      rw [t1,List.append_assoc,List.take_append_of_le_length (by simp [Array.length_toList];omega),List.take_take,Nat.min_eq_left (by omega),←ht,List.take_take,Nat.min_eq_left (by omega)]
    have e2:(cur1.toList.drop (i*12+(shCells x).length)).take ((l.length - i)*12)=(flat l).drop (i*12):=by
      rw [t1,show i*12+(shCells x).length=(i+1)*12 by rw [shCells_len];omega,List.append_assoc,List.drop_left' (by simp [Array.length_toList];omega)]
      exact List.take_left' hl1
    have e3:(cur1.toList.take (i*12)++shCells x).length=(i+1)*12:=by
      rw [List.length_append,List.length_take,Array.length_toList,shCells_len,Nat.min_eq_left (by omega)]
      omega
    rw [List.take_append,List.take_of_length_le (by rw [e3];omega),e3,show (l.length+1)*12 - (i+1)*12=(l.length - i)*12 by omega,e1,e2])
  rw [hll] at this
  exact this
end Go.Proofs.Ytahidkjncljkaaa.Print

namespace Go.Proofs.Ytahidkjncljkaaa.Print
open Go.RowKit Go.Proofs.YtahidkjncljkaaaW.PrintWords Go.Proofs.YtahidkjncljkaaaW.PrintLast Go.Proofs.YtahidkjncljkaaaW.PrintMore
section
variable {P:Program} {ops:Array Oper} {rest:List Oper} {o:Oper} {a:Act} {Q:Exit→Act→World→Prop} {Kc:Act→World→Prop} {W:World}
theorem put_run {gb e:Nat} {zs:Array Value} (hh:W.heap[gb]?=some (.cells zs e (0,0))) (t:TypeId) (u:Value) (off:Nat) (seg:List Value) (hu:u.cells.toList=seg) (ht:(P.info? t).map (·.size)=some seg.length) (hfit:off+seg.length≤zs.size) (h1: ∀q∈seg,q.oneCell'=true):
  ∃w' cur,(Instr.storeAt t (.pointer (some ⟨gb,off,none⟩)) u).run P W= .ok () w'∧w'.heap[gb]?=some (.cells cur e (0,0))∧cur.size=zs.size∧cur.toList=zs.toList.take off++seg++zs.toList.drop (off+seg.length)∧W.grownBy w' (some gb):=by
 have hrun:=run_store_run (P:=P) t u seg hh hu ht (o:=off) hfit h1;obtain ⟨cur,hc,hs,hl⟩:=setCells_row seg off W zs hh hfit;obtain ⟨s1,s2,s3,s4⟩:=setCells_same gb seg off W;exact ⟨_,cur,hrun,hc,hs,hl,⟨s1,s2,s3,by rw [s4];exact Nat.le_refl _,fun k hk hne=>setCells_far seg off k (by rintro rfl;exact hne rfl)⟩⟩
theorem store_all {gb e:Nat} {zs:Array Value} (hh:W.heap[gb]?=some (.cells zs e (0,0))) (t:TypeId) (p x:Operand) (ho:o.op= .store t p x) (hN:o.dst=none) (hgd:o.guard=none) (u:Value) (seg:List Value)
  (hp:a.eval p= .pointer (some ⟨gb,0,none⟩)) (hx:a.eval x=u) (hu:u.cells.toList=seg) (ht:(P.info? t).map (·.size)=some seg.length) (hz:zs.size=seg.length) (h1: ∀q∈seg,q.oneCell'=true)
  (h: ∀w',w'.heap[gb]?=some (.cells seg.toArray e (0,0))→W.grownBy w' (some gb)→wpList P ops Q rest a w'):wpList P ops Q (o::rest) a W:=by
 obtain ⟨w',cur,hrun,hc,hs,hl,hg⟩:=put_run (P:=P) hh t u 0 seg hu ht (by omega) h1
 have e1:cur=seg.toArray:=by
  apply Array.ext'
  rw [hl,List.take_zero,List.nil_append,Nat.zero_add,List.drop_of_length_le (by simp [Array.length_toList];omega),List.append_nil]
 subst e1
 refine wpList_plain hgd fun K hK=> ?_
 unfold Oper.wp execOp
 simp only [ho,hp,hx,Sem.run_bind,Sem.run_pure,Result.andThen_ok,hrun]
 show K (a.put o.dst undef) _
 rw [hN]
 exact hK a _ (h _ hc hg)
theorem store_part {gb e:Nat} {zs:Array Value} (hh:W.heap[gb]?=some (.cells zs e (0,0))) (t:TypeId) (p x:Operand) (ho:o.op= .store t p x) (hN:o.dst=none) (hgd:o.guard=none) (off:Nat) (u:Value) (seg new:List Value)
  (hp:a.eval p= .pointer (some ⟨gb,off,none⟩)) (hx:a.eval x=u) (hu:u.cells.toList=seg) (ht:(P.info? t).map (·.size)=some seg.length) (hz:off+seg.length≤zs.size) (h1: ∀q∈seg,q.oneCell'=true) (hnew:zs.toList.take off++seg++zs.toList.drop (off+seg.length)=new)
  (h: ∀w',w'.heap[gb]?=some (.cells new.toArray e (0,0))→W.grownBy w' (some gb)→wpList P ops Q rest a w'):wpList P ops Q (o::rest) a W:=by
 obtain ⟨w',cur,hrun,hc,hs,hl,hg⟩:=put_run (P:=P) hh t u off seg hu ht hz h1
 have e1:cur=new.toArray:=by
  apply Array.ext'
  rw [hl,hnew]
 subst e1
 refine wpList_plain hgd fun K hK=> ?_
 unfold Oper.wp execOp
 simp only [ho,hp,hx,Sem.run_bind,Sem.run_pure,Result.andThen_ok,hrun]
 show K (a.put o.dst undef) _
 rw [hN]
 exact hK a _ (h _ hc hg)
end
theorem R_put {α:Type} {d:Kd α} {e base:Nat} {w w1:World} {v:Value} {xs:List α} (h:d.R e w base (fun _=>True) v xs) {g t:Nat} {cells:Array Value} (hb:w.heap[g]?=some (.cells cells t (0,0))) (ht: ∀q,q∈e::d.E→q≠t) (hg:w.grownBy w1 (some g)):d.R e w1 base (fun _=>True) v xs:=
 Kd.R_mono (Kd.R_grown (Kd.R_types h hb ht) hg (fun _ hk e=>hk.2 (Option.some.inj e))) (fun _ _=>trivial)
theorem below_put {a w w1:World} {base g:Nat} (h:Below base a w) (hb:base≤w.heap.size) (hg:w.grownBy w1 (some g)) (hge:base≤g):Below base a w1:=pw_below_grown h (some g) hb hg (fun k e=>by cases e;exact hge)
theorem blk_put_other {w w1:World} {g k:Nat} {ob:Obj} (h:w.heap[k]?=some ob) (hg:w.grownBy w1 (some g)) (hne:k≠g):w1.heap[k]?=some ob:=by
  rw [hg.block k (by
    rcases Nat.lt_or_ge k w.heap.size with hl|hl
    · exact hl
    rw [Array.getElem?_eq_none hl] at h;cases h) (by intro e;cases e;exact hne rfl)]
  exact h
end Go.Proofs.Ytahidkjncljkaaa.Print

namespace Go.Proofs.Ytahidkjncljkaaa.Print
open Go.RowKit Go.Proofs.YtahidkjncljkaaaW.PrintWords Go.Proofs.YtahidkjncljkaaaW.PrintLast Go.Proofs.YtahidkjncljkaaaW.PrintMore
attribute [local go_sem] max2_int min2_int max_two min_two max_three min_three max_four min_four

def placeL (l:List S79) (n:ByteArray):Nat:=(l.takeWhile fun y=>Op.bytesLess y.f0.toList n.toList).length
theorem placeL_le (l:List S79) (n:ByteArray):placeL l n≤l.length:=(List.takeWhile_sublist _).length_le
theorem placeL_lt: ∀(l:List S79) (n:ByteArray) (i:Nat),i<placeL l n→Op.bytesLess (rd_T79 l (i:Int)).f0.toList n.toList=true
  |[],n,i,h=>by simp [placeL] at h
  | y :: l, n, i, h => by
    unfold placeL at h;rw [List.takeWhile_cons] at h
    split at h
    rotate_left
    · simp at h
    rename_i hy
    cases i with
    |zero=>exact hy
    | succ i =>
      have:=placeL_lt l n i (by unfold placeL;simpa using h)
      simpa [rd_T79] using this
theorem placeL_at: ∀(l:List S79) (n:ByteArray),placeL l n<l.length→Op.bytesLess (rd_T79 l (placeL l n:Int)).f0.toList n.toList=false
  |[],n,h=>by simp at h
  | y :: l, n, h => by
    by_cases hy:Op.bytesLess y.f0.toList n.toList=true
    · have e : placeL (y :: l) n = placeL l n + 1 := by unfold placeL; rw [List.takeWhile_cons, if_pos hy, List.length_cons]
      rw [e] at h ⊢
      have:=placeL_at l n (by simpa using h)
      simpa [rd_T79] using this
    have e:placeL (y::l) n=0:=by unfold placeL;rw [List.takeWhile_cons,if_neg hy,List.length_nil]
    rw [e]
    simpa [rd_T79] using hy
def shape_Create.f (l0:List (S79)) (a1:ByteArray) (a2:ByteArray) (a3_0:Int) (a3_1:Int) (a3_2:Int):Option ((List (S79))×Int):=
 (shape_made.f l0 a1).bind fun p=>if a1.toList=([]:List UInt8) then some ([],1) else if (a1.size:Int)>24 then some ([],1) else (vec_May.f a3_0 a3_1 a3_2).bind fun m=>if m=false then some ([],1) else
  if p.2≥0 then some ([],3) else (shape_change_parent.f p.1 p.2 a2).bind fun q=>if q=false then some ([],2) else if (l0.length:Int)≥120 then some ([],4) else
   some (p.1.take (placeL l0 a1)++⟨a1,a2,⟨a3_0,a3_1,a3_2⟩,⟨0,0,0⟩,⟨0,0,0⟩,1⟩::p.1.drop (placeL l0 a1),0)
set_option maxHeartbeats 8000000 in
set_option maxRecDepth 100000 in
theorem shape_Create.calls (A0:Option Addr) (c0:Nat) (l0:List (S79)) (a1:ByteArray) (a2:ByteArray) (a3_0:Int) (a3_1:Int) (a3_2:Int) (r1:List (S79)) (r2:Int) (w:World) (hr0:Kd.C k79 w A0 l0.length l0) (hc0:l0.length≤c0) (h:shape_Create.f l0 a1 a2 a3_0 a3_1 a3_2=some (r1,r2)):
    Calls Try.prog 138 #[.slice A0 l0.length c0, .string a1, .string a2, .agg #[.int .i64 a3_0, .int .i64 a3_1, .int .i64 a3_2]] w fun e w'=> ∃v0_:Value,e= .returned (.tuple #[v0_, .int .i64 r2])∧Kd.R k79 79 w' w.heap.size (fun _=>True) v0_ r1∧Below w.heap.size w w':=by
  have hu197:=Try.underlying197;have hu195:=Try.underlying195;have hu79:=Try.underlying79;have hu37:=Try.underlying37;unfold shape_Create.f at h;obtain ⟨⟨out,j⟩,hmd,h1⟩:=Option.bind_eq_some_iff.1 h;clear h
  have hout:out=l0∧l0.length<1256584717458:=by
    unfold shape_made.f slices_Clone_Item.f at hmd
    split at hmd
    rotate_left
    · cases hmd
    obtain ⟨_,h1,h2⟩:=Option.bind_eq_some_iff.1 hmd;obtain ⟨_,h3,h4⟩:=Option.bind_eq_some_iff.1 h2;cases h4;exact ⟨(Option.some.inj h1).symm,by assumption⟩
  obtain ⟨rfl,hlim⟩:=hout;have HR:=Aside0.mk hr0;have HC:=Aside0.mk hc0;have HM:=Aside0.mk hmd;have HB:=am_ (Below.refl w.heap.size w);have HH:=Aside0.mk h1;clear hr0 hc0 hmd h1 hlim;go_enter Try.func138,Try.ntmps138;go_wp2_with (first|((with_reducible refine gate_dst (N:=7) rfl ?_);refine bx_ (N:=7) (cs:=#[.int .i64 a3_0, .int .i64 a3_1, .int .i64 a3_2]) (t:=37) ?_;intro gb1 hg w1 hbox hb;have BK1:=am_ (hbox);have GE1:=am_ ((by rw [hg];exact below_size HB.out:w.heap.size≤gb1));replace HB:=am_ (below_step HB.out hb);have EQ1:=am_ (hg);clear hb hbox hg))
  refine (shape_made.calls _ _ _ _ _ _ _ (Kd.C_below HR.out HB.out) HC.out HM.out).mono ?_;rintro e w3 ⟨v0,rfl,ho,hb⟩;have HO:=am_ (Kd.R_lower ho (below_size HB.out));have HLT:=am_ (Kd.R_lt ho);have GT1:=am_ (Nat.lt_of_lt_of_le (blk_lt BK1.out) hb.size);replace BK1:=am_ (blk_below BK1.out hb);replace HB:=am_ (below_step HB.out hb);clear ho hb;obtain ⟨A5,c5,rfl⟩: ∃A5 c5,v0= .slice A5 out.length c5:=Kd.R_slice HO.out;have h1:=HH.out;clear HH;by_cases c1:a1.toList=([]:List UInt8);rw [if_pos c1] at h1;have c1b2:a1.toList.isEmpty=true:=by rw [c1];rfl
  cases h1;clear c1;rotate_left;rw [if_neg c1] at h1;have c1b2:a1.toList.isEmpty=false:=by simpa using c1
  clear c1;by_cases c2:(a1.size:Int)>24;rw [if_pos c2] at h1;cases h1;have q2:=eq_true c2;rotate_left;rw [if_neg c2] at h1;have q2:=eq_false c2;obtain ⟨m,hm,h2⟩:=Option.bind_eq_some_iff.1 h1;have HMAY:=Aside0.mk hm;have HH:=Aside0.mk h2;clear hm h1 h2 c2;rotate_left
  all_goals (
  go_wp2_with (first|((with_reducible refine gate_dst (N:=10) rfl ?_);refine bx_ (N:=10) (cs:=#[.slice none 0 0, .int .i64 0]) (t:=197) ?_;intro gb2 hg w4 hbox hb;replace HO:=am_ (Kd.R_below HO.out hb);replace BK1:=am_ (blk_below BK1.out hb);have BK2:=am_ (hbox);have GE2:=am_ ((by rw [hg];exact below_size HB.out:w.heap.size≤gb2));replace HB:=am_ (below_step HB.out hb);have EQ2:=am_ (hg);clear hb hbox hg)|((with_reducible refine gate_store (t:=197) (p:=10) (v:= .tmp 14) rfl ?_);refine store_all BK2.out 197 (.tmp 10) (.tmp 14) rfl rfl rfl (.agg #[.slice A5 out.length c5, .int .i64 j]) [.slice A5 out.length c5, .int .i64 j] rfl rfl rfl (by kernel_rfl) rfl (by intro q hq;simp only [List.mem_cons,List.not_mem_nil,or_false] at hq;rcases hq with rfl|rfl<;>rfl) ?_;intro w5 hbk hg;replace HO:=am_ (R_put HO.out BK2.out (by decide) hg);replace BK1:=am_ (blk_put_other BK1.out hg (by have:=EQ2.out;have:=GT1.out;omega));replace HB:=am_ (below_put HB.out (below_size HB.out) hg GE2.out);replace BK2:=am_ (hbk);clear hbk hg;obtain ⟨_,_,_⟩:=xz3_ BK1;obtain ⟨cgb2_0,cgb2_1⟩:=xz2_ BK2)))
  ·go_ret2
   exact ⟨_,rfl,Kd.R_nil _ _ _ _ _,HB.out⟩
  ·go_ret2
   exact ⟨_,rfl,Kd.R_nil _ _ _ _ _,HB.out⟩
  ·refine (vec_May.calls _ _ _ _ _ HMAY.out).mono ?_;rintro e w6 ⟨rfl,hb⟩;clear cgb2_0 cgb2_1;replace HO:=am_ (Kd.R_below HO.out hb);replace BK1:=am_ (blk_below BK1.out hb);replace BK2:=am_ (blk_below BK2.out hb);replace HB:=am_ (below_step HB.out hb);clear hb;obtain ⟨cgb2_0,cgb2_1⟩:=xz2_ BK2;have h1:=HH.out;clear HH
   cases m with
   | false =>
     rw [if_pos rfl] at h1;cases h1;go_wp2_with fail
     go_ret2
     exact ⟨_,rfl,Kd.R_nil _ _ _ _ _,HB.out⟩
   | true =>
     rw [if_neg (by simp)] at h1;by_cases c3:j≥0
     · rw [if_pos c3] at h1
       cases h1
       have q3:=eq_true c3
       clear c3
       go_wp2_with fail
       go_ret2
       exact ⟨_,rfl,Kd.R_nil _ _ _ _ _,HB.out⟩
     rw [if_neg c3] at h1;have q3:=eq_false c3;obtain ⟨q,hq,h2⟩:=Option.bind_eq_some_iff.1 h1;have HQ:=Aside0.mk hq;have HH:=Aside0.mk h2;clear hq h1 h2 c3;go_wp2_with fail
     refine (shape_change_parent.calls _ _ _ _ _ _ _ (Kd.R_reads' HO.out).2.2 (Kd.R_reads' HO.out).2.1 HQ.out).mono ?_;rintro e w7 ⟨rfl,hb⟩;clear cgb2_0 cgb2_1;replace HO:=am_ (Kd.R_below HO.out hb);replace BK1:=am_ (blk_below BK1.out hb);replace BK2:=am_ (blk_below BK2.out hb);replace HB:=am_ (below_step HB.out hb);clear hb;obtain ⟨cgb2_0,cgb2_1⟩:=xz2_ BK2;have h1:=HH.out;clear HH
     cases q with
     | false =>
       rw [if_pos rfl] at h1;cases h1;go_wp2_with fail
       go_ret2
       exact ⟨_,rfl,Kd.R_nil _ _ _ _ _,HB.out⟩
     | true =>
       rw [if_neg (by simp)] at h1;by_cases c4:(out.length:Int)≥120
       · rw [if_pos c4] at h1
         cases h1
         have q4:=eq_true c4
         go_wp2_with fail
         go_ret2
         exact ⟨_,rfl,Kd.R_nil _ _ _ _ _,HB.out⟩
       rw [if_neg c4] at h1;cases h1;have q4:=eq_false c4;have HL:=am_ (show out.length<1000000 by omega);have HPL:=am_ (placeL_le out a1);clear c4;obtain ⟨_,_,_⟩:=xz3_ BK1;go_wp2_with fail
       go_loopg [11] (placeL out a1) (fun kq s11 wr=>wr=w7∧ ∃i:Nat,i≤placeL out a1∧placeL out a1 - i≤kq∧s11= .int .i64 i)
       case atStart=>exact ⟨rfl,0,by omega,by omega,rfl⟩
       case round=>
         obtain ⟨rfl,i,hi,hg,rfl⟩:=hrel;have hlen:=HPL.out;by_cases hlt:i<out.length;rotate_left
         · have q5 : ((i : Int) < (out.length : Int)) = False := eq_false (by omega)
           obtain rfl:i=placeL out a1:=by omega
           go_wp2_with fail
           refine (sliInsert_calls _ w.heap.size _ out (placeL out a1) ⟨a1,a2,⟨a3_0,a3_1,a3_2⟩,⟨0,0,0⟩,⟨0,0,0⟩,1⟩ _ (Kd.R_below HO.out (below_alloc (Below.refl _ _) _)) HPL.out (blk_new _ _) (fun e=>absurd (Kd.R_lt HO.out _ e) (by omega)) (below_size (below_alloc HB.out _)) HL.out).mono ?_
           rintro e w9 ⟨v1,rfl,ho,hb⟩
           have HO9:=Aside0.mk ho
           have HB9:=am_ ((below_alloc HB.out _).trans hb)
           clear ho hb
           go_wp2_with fail
           go_ret2
           exact ⟨_,rfl,HO9.out,HB9.out⟩


         have q5:((i:Int)<(out.length:Int))=True:=eq_true (by omega);have q6:((0:Int)≤(i:Int))=True:=eq_true (by omega);obtain ⟨ad,e1,k0,_⟩:=at_T79 (Kd.C_below HR.out HB.out) (i:Int) (by omega) (by omega);cases e1;simp only [Int.toNat_natCast] at k0;by_cases hp:i<placeL out a1
         · have q7 := placeL_lt out a1 i hp
           go_wp2_with fail
           have hL:=HL.out
           go_roundg (placeL out a1 - (i+1))
           case measure=>omega
           case rel=>exact ⟨rfl,i+1,by omega,by omega,by rw [show wrap64 ((i:Int)+1)=((i+1:Nat):Int) from by unfold wrap64;omega]⟩
         obtain rfl:i=placeL out a1:=by omega
         have q7:=placeL_at out a1 hlt;go_wp2_with fail
         refine (sliInsert_calls _ w.heap.size _ out (placeL out a1) ⟨a1,a2,⟨a3_0,a3_1,a3_2⟩,⟨0,0,0⟩,⟨0,0,0⟩,1⟩ _ (Kd.R_below HO.out (below_alloc (Below.refl _ _) _)) HPL.out (blk_new _ _) (fun e=>absurd (Kd.R_lt HO.out _ e) (by omega)) (below_size (below_alloc HB.out _)) HL.out).mono ?_;rintro e w9 ⟨v1,rfl,ho,hb⟩;have HO9:=Aside0.mk ho;have HB9:=am_ ((below_alloc HB.out _).trans hb);clear ho hb;go_wp2_with fail
         go_ret2
         exact ⟨_,rfl,HO9.out,HB9.out⟩
end Go.Proofs.Ytahidkjncljkaaa.Print

namespace Go.Proofs.Ytahidkjncljkaaa.Print
open Go.RowKit Go.Proofs.YtahidkjncljkaaaW.PrintWords Go.Proofs.YtahidkjncljkaaaW.PrintLast Go.Proofs.YtahidkjncljkaaaW.PrintMore
theorem R_base_ {α:Type} {d:Kd α} {e base:Nat} {ok:Nat→Prop} {w:World} {v:Value} {xs:List α} (h:d.R e w base ok v xs) (k:Nat) (hk:v.ownBlock=some k):base≤k:=Kd.R_base h k hk
theorem older_zero {l r:List S79} {j:Int} (h:olderF l j=some (0,r)):0≤j∧j<(l.length:Int):=by
  unfold olderF at h
  split at h
  · assumption
  cases h
theorem older_len {l r:List S79} {j e:Int} (h:olderF l j=some (e,r)):r.length=l.length:=by
  unfold olderF at h
  split at h
  rotate_left
  · cases h
  split at h
  · cases h;rfl
  cases h;simp
theorem sh_cells' {base:Nat} {w:World} {g c n:Nat} {l:List S79} (h:Kd.R k79 79 w base (fun _=>True) (.slice (some ⟨g,0,none⟩) n c) l) (hn:l.length=n) (j:Int) (h0:0≤j) (h1:j<(n:Int)):
  ∀j' u,(shCells (rd_T79 l j))[j']?=some u→w.cell? ⟨g,j.toNat*12+j',none⟩=some u:=by
 subst hn;exact sh_cells h j h0 h1
theorem sh_block {α:Type} {d:Kd α} {e base:Nat} {ok:Nat→Prop} {w:World} {g n c:Nat} {xs:List α} (h:d.R e w base ok (.slice (some ⟨g,0,none⟩) n c) xs): ∃cur,w.heap[g]?=some (.cells cur e (0,0))∧n*d.sz≤cur.size:=by
  obtain ⟨_,inner,⟨_,h|⟨g',cap',cur,hv,hg,hh,hnc,hcm,hcs,_⟩⟩,_⟩:=h
  · cases h.1
  cases hv
  exact ⟨cur,hh,by rw [hcs];exact Nat.mul_le_mul_right _ (by omega)⟩
theorem sh_store {P:Program} {ops:Array Oper} {o:Oper} {a:Act} {Q:Exit→Act→World→Prop} {Kc:Act→World→Prop} {α:Type} (d:Kd α) {W:World} (base:Nat) (hw:Region.wanted o (yielded ops a.tmps)=true) (t:TypeId) (p x:Operand) (ho:o.op= .store t p x) (hN:o.dst=none) (e:TypeId) {g n cap:Nat} (i:Int) (j:Nat) (xs:List α) (x':α) (u:Value) (seg c:List Value) (ok okp:Nat→Prop)
  (haddr:a.eval p= .pointer (some ⟨g,i.toNat*d.sz+j,none⟩)) (hx:a.eval x=u) (hu:u.cells.toList=seg) (ht:(P.info? t).map (·.size)=some seg.length) (h1: ∀q∈seg,q.oneCell'=true)
  (HO:d.R e W base ok (.slice (some ⟨g,0,none⟩) n cap) xs) (h0:0≤i) (hi:i<n) (hcl:c.length=d.sz) (hcc: ∀j u,c[j]?=some u→W.cell? ⟨g,i.toNat*d.sz+j,none⟩=some u)
  (hj:j+seg.length≤d.sz) (hM:d.M W base okp x' (c.take j++seg++c.drop (j+seg.length))) (hokp: ∀k,okp k→ok k∧k≠g)
  (h: ∀w1,d.R e w1 base ok (.slice (some ⟨g,0,none⟩) n cap) (xs.set i.toNat x')→W.grownBy w1 (some g)→Kc a w1):if Region.wanted o (yielded ops a.tmps)=true then Oper.wp P o a W Kc Q else Kc (a.put none undef) W:=by
 obtain ⟨hrow,hg⟩:=Kd.R_seg HO i h0 hi hcl hcc hj hM hokp
 obtain ⟨cur,hh,hsz⟩:=sh_block HO
 have h2:i.toNat*d.sz+d.sz≤n*d.sz:=by rw [←Nat.succ_mul];exact Nat.mul_le_mul_right _ (by omega)
 have hrun:=run_store_run (P:=P) t u seg hh hu ht (o:=i.toNat*d.sz+j) (by omega) h1
 rw [if_pos hw]
 unfold Oper.wp execOp
 simp only [ho,haddr,hx,Sem.run_bind,Sem.run_pure,Result.andThen_ok,hrun]
 show Kc (a.put o.dst undef) _
 rw [hN]
 exact h _ hrow hg
theorem R_turned {α:Type} {d:Kd α} {e base base0:Nat} {w w1:World} {u v:Value} {xs:List α} {l:List S79} (h:d.R e w base0 (fun _=>True) u xs) (hv:Kd.R k79 79 w base (fun _=>True) v l) (ht: ∀q,q∈e::d.E→q≠79) (hT:Turned w w1 base v):d.R e w1 base0 (fun _=>True) u xs:=by
  have hcase:v.ownBlock=none∨ ∃g cells,v.ownBlock=some g∧w.heap[g]?=some (.cells cells 79 (0,0)):=by
    cases hb:v.ownBlock with
    |none=>exact .inl rfl
    | some g =>
      obtain ⟨inner,ho⟩:=Kd.R_own hv
      obtain ⟨cells,hc⟩:=own_typed ho g hb
      exact .inr ⟨g,cells,rfl,hc⟩
  rcases hcase with hn|⟨g,cells,hb,hc⟩
  · refine Kd.R_step h (fun k _ hk => ?_)
    rw [Array.getElem?_eq_getElem hk]
    exact hT.block k _ (Array.getElem?_eq_getElem hk) (by rw [hn];simp)
  refine Kd.R_mono (Kd.R_step (Kd.R_types h hc ht) (fun k hk hlt=> ?_)) (fun _ _=>trivial)
  rw [Array.getElem?_eq_getElem hlt]
  exact hT.block k _ (Array.getElem?_eq_getElem hlt) (by rw [hb];intro q;exact hk.2 (Option.some.inj q))
theorem Turned.trans_ {W w1 w2:World} {base:Nat} {v:Value} (h:Turned W w1 base v) (k:Turned w1 w2 base v):Turned W w2 base v:=⟨h.below.trans k.below,fun b o hk hn=>k.block b o (h.block b o hk hn) hn⟩
theorem Turned.below_ {W w1 w2:World} {base:Nat} {v:Value} (h:Turned W w1 base v) (hb:base≤w1.heap.size) (k:Below w1.heap.size w1 w2):Turned W w2 base v:=h.trans_ (Turned.of_below k hb)
theorem Turned.grown_ {W w1 w2:World} {base g n c:Nat} (h:Turned W w1 base (.slice (some ⟨g,0,none⟩) n c)) (hb:base≤w1.heap.size) (hg0:base≤g) (hg:w1.grownBy w2 (some g)):Turned W w2 base (.slice (some ⟨g,0,none⟩) n c):=
 h.trans_ (Turned.then_grown (Turned.of_below (Below.refl _ _) hb) hb hg0 hg)
def shSub (op:S37→S37) (y:S79):S79:=⟨y.f0,y.f1,y.f2,y.f3,op y.f4,y.f5⟩
def shiftF (op:S37→S37):List ByteArray→List S79→Option (List S79)
 |[],out=>some out
 |s::us,out=>(tree_Find.f out s).bind fun j=>if 0≤j∧j<(out.length:Int) then shiftF op us (out.set j.toNat (shSub op (rd_T79 out j))) else none
end Go.Proofs.Ytahidkjncljkaaa.Print

namespace Go.Proofs.Ytahidkjncljkaaa.Print
open Go.RowKit Go.Proofs.YtahidkjncljkaaaW.PrintWords Go.Proofs.YtahidkjncljkaaaW.PrintLast Go.Proofs.YtahidkjncljkaaaW.PrintMore
attribute [local go_sem] max2_int min2_int max_two min_two max_three min_three max_four min_four

def limF (v:S37) (y:S79):S79:=⟨y.f0,y.f1,v,y.f3,y.f4,y.f5⟩
def shape_Limit.f (l0:List (S79)) (a1:ByteArray) (a2_0:Int) (a2_1:Int) (a2_2:Int) (a3:Int):Option ((List (S79))×Int):=
 (vec_May.f a2_0 a2_1 a2_2).bind fun m=>if m=false then some ([],1) else (shape_made.f l0 a1).bind fun p=>(guardF p.1 p.2 a3).bind fun e=>if e≠0 then some ([],e) else (olderF p.1 p.2).bind fun q=>if q.1≠0 then some ([],q.1) else
  (vec_Le.f (rd_T79 q.2 p.2).f4.f0 (rd_T79 q.2 p.2).f4.f1 (rd_T79 q.2 p.2).f4.f2 a2_0 a2_1 a2_2).bind fun b=>if b=false then some ([],12) else some (q.2.set p.2.toNat (limF ⟨a2_0,a2_1,a2_2⟩ (rd_T79 q.2 p.2)),0)
set_option maxHeartbeats 8000000 in
set_option maxRecDepth 100000 in
theorem shape_Limit.calls (A0:Option Addr) (c0:Nat) (l0:List (S79)) (a1:ByteArray) (a2_0:Int) (a2_1:Int) (a2_2:Int) (a3:Int) (r1:List (S79)) (r2:Int) (w:World) (hr0:Kd.C k79 w A0 l0.length l0) (hc0:l0.length≤c0) (h:shape_Limit.f l0 a1 a2_0 a2_1 a2_2 a3=some (r1,r2)):
    Calls Try.prog 139 #[.slice A0 l0.length c0, .string a1, .agg #[.int .i64 a2_0, .int .i64 a2_1, .int .i64 a2_2], .int .i64 a3] w fun e w'=> ∃v0_:Value,e= .returned (.tuple #[v0_, .int .i64 r2])∧Kd.R k79 79 w' w.heap.size (fun _=>True) v0_ r1∧Below w.heap.size w w':=by
  have hu197:=Try.underlying197;have hu195:=Try.underlying195;have hu79:=Try.underlying79;have hu37:=Try.underlying37;unfold shape_Limit.f at h;obtain ⟨m,hm,h1⟩:=Option.bind_eq_some_iff.1 h;clear h;have HMAY:=Aside0.mk hm;have HR:=Aside0.mk hr0;have HC:=Aside0.mk hc0;have HB:=am_ (Below.refl w.heap.size w);have HH:=Aside0.mk h1;clear hr0 hc0 hm h1;go_enter Try.func139,Try.ntmps139;go_wp2_with (first|((with_reducible refine gate_dst (N:=6) rfl ?_);refine bx_ (N:=6) (cs:=#[.int .i64 a2_0, .int .i64 a2_1, .int .i64 a2_2]) (t:=37) ?_;intro gb1 hg w1 hbox hb;have BK1:=am_ (hbox);have GE1:=am_ ((by rw [hg];exact below_size HB.out:w.heap.size≤gb1));replace HB:=am_ (below_step HB.out hb);have EQ1:=am_ (hg);clear hb hbox hg;obtain ⟨cgb1_0,cgb1_1,cgb1_2⟩:=xz3_ BK1))
  refine (vec_May.calls _ _ _ _ _ HMAY.out).mono ?_;rintro e w2 ⟨rfl,hb⟩;clear cgb1_0 cgb1_1 cgb1_2;replace BK1:=am_ (blk_below BK1.out hb);replace HB:=am_ (below_step HB.out hb);clear hb;have h1:=HH.out;clear HH
  cases m with
  | false =>
    rw [if_pos rfl] at h1;cases h1;go_wp2_with fail
    go_ret2
    exact ⟨_,rfl,Kd.R_nil _ _ _ _ _,HB.out⟩
  | true =>
    rw [if_neg (by simp)] at h1;obtain ⟨⟨out,j⟩,hmd,h2⟩:=Option.bind_eq_some_iff.1 h1;clear h1;obtain ⟨e0,hgd,h3⟩:=Option.bind_eq_some_iff.1 h2;clear h2;dsimp only at hgd h3;have HM:=Aside0.mk hmd;have HG:=Aside0.mk hgd;have HH:=Aside0.mk h3;clear hmd hgd h3;go_wp2_with fail
    refine (shape_made.calls _ _ _ _ _ _ _ (Kd.C_below HR.out HB.out) HC.out HM.out).mono ?_;rintro e w3 ⟨v0,rfl,ho,hb⟩;have HO:=am_ (Kd.R_lower ho (below_size HB.out));have HRB:=am_ (R_base_ ho);have GT0:=am_ (blk_lt BK1.out);have GT1:=am_ (Nat.lt_of_lt_of_le (blk_lt BK1.out) hb.size);replace BK1:=am_ (blk_below BK1.out hb);replace HB:=am_ (below_step HB.out hb);clear ho hb;obtain ⟨A5,c5,rfl⟩: ∃A5 c5,v0= .slice A5 out.length c5:=Kd.R_slice HO.out;have HLT:=am_ (Kd.R_lt HO.out);have NE1:=am_ (show some gb1≠(Value.slice A5 out.length c5).ownBlock from fun e=>by have:=HRB.out _ e.symm;have:=GT0.out;omega)
    go_wp2_with (first|((with_reducible refine gate_dst (N:=10) rfl ?_);refine bx_ (N:=10) (cs:=#[.slice none 0 0, .int .i64 0]) (t:=197) ?_;intro gb2 hg w4 hbox hb;replace HO:=am_ (Kd.R_below HO.out hb);replace BK1:=am_ (blk_below BK1.out hb);have BK2:=am_ (hbox);have GE2:=am_ ((by rw [hg];exact below_size HB.out:w.heap.size≤gb2));replace HB:=am_ (below_step HB.out hb);have EQ2:=am_ (hg);clear hb hbox hg)|((with_reducible refine gate_store (t:=197) (p:=10) (v:= .tmp 18) rfl ?_);refine store_all BK2.out 197 (.tmp 10) (.tmp 18) rfl rfl rfl (.agg #[.slice A5 out.length c5, .int .i64 j]) [.slice A5 out.length c5, .int .i64 j] rfl rfl rfl (by kernel_rfl) rfl (by intro q hq;simp only [List.mem_cons,List.not_mem_nil,or_false] at hq;rcases hq with rfl|rfl<;>rfl) ?_;intro w5 hbk hg;replace HO:=am_ (R_put HO.out BK2.out (by decide) hg);replace BK1:=am_ (blk_put_other BK1.out hg (by have:=EQ2.out;have:=GT1.out;omega));replace HB:=am_ (below_put HB.out (below_size HB.out) hg GE2.out);replace BK2:=am_ (hbk);clear hbk hg;obtain ⟨cgb2_0,cgb2_1⟩:=xz2_ BK2))
    have NE2:=am_ (show some gb2≠(Value.slice A5 out.length c5).ownBlock from fun e=>by have:=HLT.out _ e.symm;have:=EQ2.out;omega);refine (shapeGuard_calls _ _ _ out j a3 e0 HO.out HG.out).mono ?_;rintro e w6 ⟨rfl,hb⟩;clear cgb2_0 cgb2_1;replace HO:=am_ (Kd.R_below HO.out hb);replace BK1:=am_ (blk_below BK1.out hb);replace BK2:=am_ (blk_below BK2.out hb);replace HB:=am_ (below_step HB.out hb);clear hb;obtain ⟨cgb2_0,cgb2_1⟩:=xz2_ BK2;have h3:=HH.out;clear HH;by_cases c1:e0=0;rotate_left
    · rw [if_pos c1] at h3
      cases h3
      have q1:(r2==0)=false:=by simpa using c1
      go_wp2_with fail
      go_ret2
      exact ⟨_,rfl,Kd.R_nil _ _ _ _ _,HB.out⟩


    cases c1;rw [if_neg (by simp)] at h3;obtain ⟨⟨e1,l2⟩,hol,h4⟩:=Option.bind_eq_some_iff.1 h3;clear h3;have HOL:=Aside0.mk hol;have HH:=Aside0.mk h4;clear hol h4;go_wp2_with fail
    refine (shapeOlder_calls _ _ _ out l2 j e1 HO.out (below_size HB.out) HOL.out).mono ?_;rintro e w7 ⟨rfl,ho,ht⟩;clear cgb2_0 cgb2_1;replace HO:=am_ (ho);replace BK1:=am_ (ht.block _ _ BK1.out NE1.out);replace BK2:=am_ (ht.block _ _ BK2.out NE2.out);replace HB:=am_ (HB.out.trans ht.below);clear ho ht;obtain ⟨cgb2_0,cgb2_1⟩:=xz2_ BK2;have h4:=HH.out;clear HH;by_cases c2:e1=0;rotate_left
    · rw [if_pos c2] at h4
      cases h4
      have q2:(r2==0)=false:=by simpa using c2
      go_wp2_with fail
      go_ret2
      exact ⟨_,rfl,Kd.R_nil _ _ _ _ _,HB.out⟩
    cases c2;rw [if_neg (by simp)] at h4;obtain ⟨b,hle,h5⟩:=Option.bind_eq_some_iff.1 h4;clear h4;obtain ⟨hj0,hj1⟩:=older_zero HOL.out;obtain ⟨gb,cap,hv0,hgb,hgl⟩:=sh_head HO.out (by have:=older_len HOL.out;omega);rw [older_len HOL.out] at hv0;cases hv0;have hcs:=sh_cells' HO.out (older_len HOL.out) j hj0 hj1;have HJ0:=Aside0.mk hj0;have HJ1:=Aside0.mk hj1;generalize hy:rd_T79 l2 j=y at hcs hle h5;have HY:=Aside0.mk hy;have HGB:=Aside0.mk hgb;have HGL:=Aside0.mk hgl;have HLE:=Aside0.mk hle;have HH:=Aside0.mk h5;have HCS:=Aside0.mk hcs;have k8:=hcs 8 _ rfl;have k9:=hcs 9 _ rfl;have k10:=hcs 10 _ rfl;obtain ⟨v0_,v1_,v2_⟩:=xz3_ BK1;have hB0:Below w7.heap.size w7 w7:=Below.refl _ _;have hBd:Below w7.heap.size w7 w7.drew:=below_drew hB0;clear hj0 hj1 hy hgb hgl hle h5 hcs;go_wp2_with fail
    go_region_held3 (fun w'=>w'.cell? ⟨gb2,0,none⟩=some (.slice (some ⟨gb,0,none⟩) out.length c5)∧w'.cell? ⟨gb2,1,none⟩=some (.int .i64 j)∧w'.cell? ⟨gb,j.toNat*12+8,none⟩=some (.int .i64 y.f4.f0)∧w'.cell? ⟨gb,j.toNat*12+9,none⟩=some (.int .i64 y.f4.f1)∧w'.cell? ⟨gb,j.toNat*12+10,none⟩=some (.int .i64 y.f4.f2)∧w'.cell? ⟨gb1,0,none⟩=some (.int .i64 a2_0)∧w'.cell? ⟨gb1,1,none⟩=some (.int .i64 a2_1)∧w'.cell? ⟨gb1,2,none⟩=some (.int .i64 a2_2)∧Below w7.heap.size w7 w')
      (first|(go_keep;done)|(go_split_ands;refine ⟨?_, ?_, ?_, ?_, ?_, ?_, ?_, ?_, ?_⟩<;>first|exact below_step (by assumption) hb|exact pw_cell_below hb (by first|assumption|(go_keep;done))))
      (first|(go_at_call 159;refine (shapeItem_calls _ ⟨gb,0,none⟩ out.length c5 j HJ0.out HJ1.out).mono ?_;rintro e w' ⟨rfl,hb⟩)|(go_at_call 114;refine (vec_Le.calls _ _ _ _ _ _ _ _ HLE.out).mono ?_;rintro e w' ⟨rfl,hb⟩))
    rename_i hHeld
    have hBz:Below w7.heap.size w7 w':=hHeld.2.2.2.2.2.2.2.2;clear hHeld cgb2_0 cgb2_1 k8 k9 k10 v0_ v1_ v2_ hB0 hBd;have HGL2:=am_ (Nat.lt_of_lt_of_le HGL.out hBz.size);have HCS2:=am_ (fun j' u hu=>(hBz.cell (p:=⟨gb,j.toNat*12+j',none⟩) HGL.out).trans (HCS.out j' u hu));replace HO:=am_ (Kd.R_below HO.out hBz);replace BK1:=am_ (blk_below BK1.out hBz);replace BK2:=am_ (blk_below BK2.out hBz);replace HB:=am_ (below_step HB.out hBz);(try clear hb);clear hBz HCS;obtain ⟨cgb2_0,cgb2_1⟩:=xz2_ BK2;obtain ⟨v0_,v1_,v2_⟩:=xz3_ BK1;have h5:=HH.out;clear HH
    cases b with
    | false =>
      rw [if_pos rfl] at h5;cases h5;go_wp2_with fail
      go_ret2
      exact ⟨_,rfl,Kd.R_nil _ _ _ _ _,HB.out⟩
    | true =>
      rw [if_neg (by simp)] at h5;cases h5;go_wp2_with fail
      have LB:=am_ (blk_lt BK2.out);have LB1:=am_ (blk_lt BK1.out);refine start_ (n:=6) (S:=fun w'=>w'.cell? ⟨gb2,0,none⟩=some (.slice (some ⟨gb,0,none⟩) out.length c5)∧w'.cell? ⟨gb2,1,none⟩=some (.int .i64 j)∧w'.cell? ⟨gb1,0,none⟩=some (.int .i64 a2_0)∧w'.cell? ⟨gb1,1,none⟩=some (.int .i64 a2_1)∧w'.cell? ⟨gb1,2,none⟩=some (.int .i64 a2_2)) (ds:=[5]) (bt_ 6 0) (by kernel_rfl) rfl rfl ⟨cgb2_0,cgb2_1,v0_,v1_,v2_⟩ (fun hHeld=> ?_);refine tv_ (i:=0) (N:=some 38) (bt_ 6 1) hHeld ?_;refine tv_ (i:=2) (N:=some 40) (bt_ 6 5) hHeld ?_;refine one_ (i:=1) (N:=some 39) (bt_ 6 7) rfl rfl (by kernel_rfl) (by decide) (fun K hK=> ?_);refine goes_ Try.func159 (by kernel_rfl) rfl #[.agg #[.slice (some ⟨gb,0,none⟩) out.length c5, .int .i64 j]] (by rfl) rfl rfl (by (try simp only [List.map_toArray,List.map_cons,List.map_nil]);rfl) ?_;refine (shapeItem_calls _ ⟨gb,0,none⟩ out.length c5 j HJ0.out HJ1.out).mono ?_;rintro e w9 ⟨rfl,hb⟩;refine ⟨_,rfl, ?_⟩;refine hK.out _ _ ⟨(hb.cell (p:=⟨gb2,0,none⟩) LB.out).trans hHeld.1,(hb.cell (p:=⟨gb2,1,none⟩) LB.out).trans hHeld.2.1,(hb.cell (p:=⟨gb1,0,none⟩) LB1.out).trans hHeld.2.2.1,(hb.cell (p:=⟨gb1,1,none⟩) LB1.out).trans hHeld.2.2.2.1,(hb.cell (p:=⟨gb1,2,none⟩) LB1.out).trans hHeld.2.2.2.2⟩ (fun hHeld=> ?_);clear hK K;refine norm_ (a':= ?_) ?_ ?_;rotate_left
      · show Act.put _ (some 39) _ = _
        simp only [Act.put,List.setIfInBounds_toArray,List.set_cons_zero,List.set_cons_succ,i64_w,i32_w]
        rfl
      refine pv_ (i:=3) (N:=some 41) (bt_ 6 15) ?_;refine pv_ (i:=4) (N:=some 42) (bt_ 6 31) ?_;refine last_ (i:=5) (N:=none) (bt_ 6 63) rfl rfl (by kernel_rfl) (by decide) (fun K hK=> ?_);refine sh_store k79 w.heap.size (by rfl) 37 (.tmp 42) (.tmp 40) rfl rfl 79 (g:=gb) (n:=out.length) (cap:=c5) j 2 l2 (limF ⟨a2_0,a2_1,a2_2⟩ y) (.agg #[.int .i64 a2_0, .int .i64 a2_1, .int .i64 a2_2]) [.int .i64 a2_0, .int .i64 a2_1, .int .i64 a2_2] (shCells y) (fun _=>True) (fun _=>False) rfl rfl rfl (by kernel_rfl) (by intro q hq;simp only [List.mem_cons,List.not_mem_nil,or_false] at hq;rcases hq with rfl|rfl|rfl<;>rfl) (Kd.R_below (Kd.R_below HO.out (below_drew (Below.refl _ _))) hb) HJ0.out HJ1.out rfl (fun j' u hu=>(hb.cell (p:=⟨gb,j.toNat*12+j',none⟩) HGL2.out).trans (HCS2.out j' u hu)) (by show 2+3≤12;omega) (k79_mkM _ _ _ (limF ⟨a2_0,a2_1,a2_2⟩ y)) (fun _ h=>h.elim) ?_;intro w10 ho hg;have HO10:=Aside0.mk ho;have BK10:=am_ (blk_put_other (blk_below (blk_drew BK2.out) hb) hg (fun e=>NE2.out (by rw [e];rfl)));have HB10:=am_ (below_put (below_step (below_drew HB.out) hb) (below_size (below_step (below_drew HB.out) hb)) hg HGB.out);clear ho hg hb;have c10_0:=zz_ BK10 0;refine hK.out _ _ ?_;clear hK K;refine done_ (by kernel_rfl) ?_;go_wp2_with fail
      go_ret2
      refine ⟨_,rfl, ?_,HB10.out⟩;exact HO10.out
def vecByF (op:Int→Int→Int):List S37→Int→Int→Int→Int×Int×Int
 |[],a,b,d=>(a,b,d)
 |v::l,a,b,d=>vecByF op l (op a v.f0) (op b v.f1) (op d v.f2)
theorem vecByF_snoc (op:Int→Int→Int) (v:S37): ∀(l:List S37) (a b d:Int),vecByF op (l++ [v]) a b d=(op (vecByF op l a b d).1 v.f0,op (vecByF op l a b d).2.1 v.f1,op (vecByF op l a b d).2.2 v.f2)
 |[],_,_,_=>rfl
 |_::l,_,_,_=>vecByF_snoc op v l _ _ _
theorem vecByF_take (op:Int→Int→Int) (l:List S37) (a b d:Int) (i:Nat) (h:i<l.length):vecByF op (l.take (i+1)) a b d=(op (vecByF op (l.take i) a b d).1 (rd_T37 l i).f0,op (vecByF op (l.take i) a b d).2.1 (rd_T37 l i).f1,op (vecByF op (l.take i) a b d).2.2 (rd_T37 l i).f2):=by
 have e:rd_T37 l i=l[i]:=by simp [rd_T37,h]
 rw [List.take_succ_eq_append_getElem h,vecByF_snoc,e]
set_option maxHeartbeats 1000000 in
set_option maxRecDepth 100000 in
theorem vecBy_calls (g:Nat) (op:Int→Int→Int) (eg: ∀args w,(callFunc g args).run Try.prog w= .ok (.enter g args) w) (hop: ∀x y W,Calls Try.prog g #[.int .i64 x, .int .i64 y] W fun e w'=>e= .returned (.int .i64 (op x y))∧w'=W)
    (A:Option Addr) (c:Nat) (l:List S37) (a b d:Int) (w:World) (hr0:Kd.C k37 w A l.length l) (hc0:l.length≤c) (hm:l.length≤maxLen):
    Calls Try.prog 145 #[.func (.func g) #[] #[], .agg #[.int .i64 a, .int .i64 b, .int .i64 d], .slice A l.length c] w fun e w'=>e= .returned (.agg #[.int .i64 (vecByF op l a b d).1, .int .i64 (vecByF op l a b d).2.1, .int .i64 (vecByF op l a b d).2.2])∧Below w.heap.size w w':=by
  have hu37:=Try.underlying37;have HR0:=Aside0.mk hr0;have HOP:=Aside0.mk hop;have HEG:=Aside0.mk eg;have HBT:=am_ (vecByF_take op l a b d);clear hr0 hop eg;unfold maxLen at hm;go_enter Try.func145,Try.ntmps145;go_wp2
  go_loopg [11] l.length (fun kq s11 wr=> ∃i:Nat,i≤l.length∧l.length - i≤kq∧s11= .int .i64 i∧Aside0 (Below w.heap.size w wr)∧Aside0 (wr.heap[w.heap.size]?=some (.cells #[.int .i64 (vecByF op (l.take i) a b d).1, .int .i64 (vecByF op (l.take i) a b d).2.1, .int .i64 (vecByF op (l.take i) a b d).2.2] 37 (0,0)))∧Aside0 (wr.heap[w.heap.size+1]?=some (.cells #[.int .i64 0, .int .i64 0, .int .i64 0] 37 (0,0))))
  case atStart=>
    exact ⟨0,by omega,by omega,rfl,⟨below_alloc (below_alloc (Below.refl _ _) _) _⟩,⟨blk_alloc (blk_new _ _) _⟩,⟨by have:=blk_new (w.alloc (.cells #[.int .i64 a, .int .i64 b, .int .i64 d] 37)) (.cells #[.int .i64 0, .int .i64 0, .int .i64 0] 37);simpa using this⟩⟩
  case round=>
    obtain ⟨i,hi,hg,rfl,HB,HF,HZ⟩:=hrel;generalize hq:vecByF op (l.take i) a b d=q at HF;have HQ:=Aside0.mk hq;clear hq;by_cases hlt:i<l.length;rotate_left
    · obtain rfl : i = l.length := by omega
      have hq:q=vecByF op l a b d:=HQ.out.symm.trans (by rw [List.take_length])
      subst hq
      have HQ':=HQ
      clear HQ HBT
      obtain ⟨f0,f1,f2⟩:=xz3_ HF
      obtain ⟨g0,g1,g2⟩:=xz3_ HZ
      obtain ⟨_,_,_⟩:=ff3_ HZ
      have hs1:w.heap.size+1<wr.heap.size:=blk_lt HZ.out
      go_wp2
      refine bodyPost_ret (results_cell_row rfl _ _ (w.heap.size+1) 37 #[.int .i64 (vecByF op l a b d).1, .int .i64 (vecByF op l a b d).2.1, .int .i64 (vecByF op l a b d).2.2] (0,0) _ rfl (blk_put (blk_put (blk_put HZ.out 0 _ rfl) 1 _ rfl) 2 _ rfl) Try.underlying37 rfl (by kernel_rfl)) rfl ?_
      exact ⟨rfl,below_set (below_set (below_set HB.out (Nat.le_succ _)) (Nat.le_succ _)) (Nat.le_succ _)⟩


    have hltz:(i:Int)<(l.length:Int):=by omega
    obtain ⟨ad,e1,h0,h1,h2⟩:=at_T37 HR0.out (i:Int) (by omega) (by omega);cases e1;simp only [Int.toNat_natCast] at h0 h1 h2;replace h0:=zx_ HB h0;replace h1:=zx_ HB h1;replace h2:=zx_ HB h2;have hsz:w.heap.size+1<wr.heap.size:=blk_lt HZ.out;go_wp2
    obtain ⟨W1,hW1⟩: ∃W1,W1=(wr.alloc (.cells #[.int .i64 (rd_T37 l i).f0, .int .i64 (rd_T37 l i).f1, .int .i64 (rd_T37 l i).f2] 37)).drew:=⟨_,rfl⟩;have hF1:W1.heap[w.heap.size]?=some (.cells #[.int .i64 q.1, .int .i64 q.2.1, .int .i64 q.2.2] 37 (0,0)):=by rw [hW1];exact blk_alloc HF.out _
    have hZ1:W1.heap[w.heap.size+1]?=some (.cells #[.int .i64 0, .int .i64 0, .int .i64 0] 37 (0,0)):=by rw [hW1];exact blk_alloc HZ.out _
    have hV1:W1.heap[wr.heap.size]?=some (.cells #[.int .i64 (rd_T37 l i).f0, .int .i64 (rd_T37 l i).f1, .int .i64 (rd_T37 l i).f2] 37 (0,0)):=by rw [hW1];exact blk_new _ _
    have hB1:Below w.heap.size w W1:=by rw [hW1];exact below_drew (below_alloc HB.out _)
    refine wp_region_still_tail 19 (by kernel_rfl) (by kernel_rfl) ?_
    change wpStill _ _ (World.drew _) _ _ _
    rw [←hW1];simp only [List.take_succ_cons,List.take_zero,List.drop_succ_cons,List.drop_zero];have HV1:=Aside0.mk hV1;have HF1:=Aside0.mk hF1;have HZ1:=Aside0.mk hZ1;have HB1:=Aside0.mk hB1;have f0:=(blk_cell hF1 0).trans rfl;have f1:=(blk_cell hF1 1).trans rfl;have f2:=(blk_cell hF1 2).trans rfl;have g0:=(blk_cell hV1 0).trans rfl;have g1:=(blk_cell hV1 1).trans rfl;have g2:=(blk_cell hV1 2).trans rfl;have HW1:=Aside0.mk hW1;clear hW1 hF1 hZ1 hV1 hB1;have eg:=HEG.out
    repeat still_step
    still_call (HOP.out _ _ _)
    repeat still_step
    still_call (HOP.out _ _ _)
    repeat still_step
    still_call (HOP.out _ _ _)
    repeat still_step
    refine wpStill_nil ?_
    change wpList _ _ _ _ _ (World.drew _)
    rw [←HW1.out];obtain ⟨_,_,_⟩:=ff3_ HF1;have hs1:w.heap.size<W1.heap.size:=blk_lt HF1.out;go_wp2
    have hb:=HBT.out i hlt;rw [HQ.out] at hb;have HH:=Aside0.mk hb;clear hb;go_roundg (l.length - (i+1))
    case measure=>omega
    case rel=>
      refine ⟨i+1,by omega,by omega,by go_num,⟨below_set (below_set (below_set HB1.out (Nat.le_refl _)) (Nat.le_refl _)) (Nat.le_refl _)⟩,⟨?_⟩,⟨blk_far (blk_far (blk_far HZ1.out (by simp) _) (by simp) _) (by simp) _⟩⟩;rw [HH.out];exact blk_put (blk_put (blk_put HF1.out 0 _ rfl) 1 _ rfl) 2 _ rfl
theorem vecAdd1_calls (x y:Int) (W:World):Calls Try.prog 146 #[.int .i64 x, .int .i64 y] W fun e w'=>e= .returned (.int .i64 (wrap64 (x+y)))∧w'=W:=by
 go_enter Try.func146,Try.ntmps146
 go_wp2
 go_ret
 exact ⟨rfl,rfl⟩
def vec_Add.f (l0:List (S37)):Option (Int×Int×Int):=some (vecByF (fun x y=>wrap64 (x+y)) l0 0 0 0)
set_option maxHeartbeats 1000000 in
set_option maxRecDepth 100000 in
theorem vec_Add.calls (A0:Option Addr) (c0:Nat) (l0:List (S37)) (r1:Int) (r2:Int) (r3:Int) (w:World) (hr0:Kd.C k37 w A0 l0.length l0) (hc0:l0.length≤c0) (h:vec_Add.f l0=some (r1,r2,r3)):
  Calls Try.prog 115 #[.slice A0 l0.length c0] w fun e w'=>e= .returned (.agg #[.int .i64 r1, .int .i64 r2, .int .i64 r3])∧Below w.heap.size w w':=by
 have hu37:=Try.underlying37;have hm:l0.length≤maxLen:=hr0.2.1;have HC:=am_ (vecBy_calls 146 (fun x y=>wrap64 (x+y)) (enters_of Try.func146 (by kernel_rfl) rfl) vecAdd1_calls A0 c0 l0 0 0 0 (w.alloc (.cells #[.int .i64 0, .int .i64 0, .int .i64 0] 37)) (Kd.C_below hr0 (below_alloc (Below.refl _ _) _)) hc0 hm);have HH:=Aside0.mk h;clear hr0 h;go_enter Try.func115,Try.ntmps115;go_wp2_with fail
 refine HC.out.mono ?_;rintro e w1 ⟨rfl,hb⟩;have h:=Option.some.inj (show some (vecByF (fun x y=>wrap64 (x+y)) l0 0 0 0)=some (r1,r2,r3) from HH.out);rw [h];have hZ:=blk_below (blk_new w (.cells #[.int .i64 0, .int .i64 0, .int .i64 0] 37)) hb;have HB:=Aside0.mk hb;have HZ:=Aside0.mk hZ;clear h hb hZ;obtain ⟨_,_,_⟩:=xz3_ HZ;obtain ⟨_,_,_⟩:=ff3_ HZ;have hs1:w.heap.size<w1.heap.size:=blk_lt HZ.out;go_wp2
 refine bodyPost_ret (results_cell_row rfl _ _ w.heap.size 37 #[.int .i64 r1, .int .i64 r2, .int .i64 r3] (0,0) _ rfl (blk_put (blk_put (blk_put HZ.out 0 _ rfl) 1 _ rfl) 2 _ rfl) Try.underlying37 rfl (by kernel_rfl)) rfl ?_;exact ⟨rfl,below_set (below_set (below_set (below_step (below_alloc (Below.refl _ _) _) HB.out) (Nat.le_refl _)) (Nat.le_refl _)) (Nat.le_refl _)⟩


def tree_Up.l0:Nat→List (S79)→List ByteArray→Int→Option (List ByteArray)
 |0,_,_,_=>none
 |k+1,x0,x5,x6=>if x6≥0 then (if (x5.length:Int)≤(x0.length:Int) then (if 0≤x6 then (if x6<(x0.length:Int) then (if x5.length<8796093022208 then ((tree_Find.f x0 ((rd_T79 x0 x6).f1)).bind fun t7=>(tree_Up.l0 k x0 (x5++ [(rd_T79 x0 x6).f0]) t7)) else (none)) else (none)) else (none)) else (some x5)) else (some x5)
def tree_Up.f (k:Nat) (l0:List (S79)) (a1:ByteArray):Option (List ByteArray):=(tree_Find.f l0 a1).bind fun t1=>(tree_Up.l0 k l0 ([]:List ByteArray) t1)
theorem tree_Up.mono_l: ∀k,(∀y0 y1 y2,LeO (tree_Up.l0 k y0 y1 y2) (tree_Up.l0 (k+1) y0 y1 y2))
 |0=>fun _ _ _ r h=>by simp [tree_Up.l0] at h
 |k+1=>by
  have ih0:=tree_Up.mono_l k;intro y0 y1 y2;unfold tree_Up.l0
  repeat' with_reducible first|apply ih0|apply LeO.refl|apply LeO.none|apply LeO.ite|refine LeO.bind ?_ fun _=> ?_
theorem tree_Up.mono: ∀a0 a1 k,LeO (tree_Up.f k a0 a1) (tree_Up.f (k+1) a0 a1):=by
 intro a0 a1 k;have ih0:=tree_Up.mono_l k;unfold tree_Up.f
 repeat' with_reducible first|apply ih0|apply LeO.refl|apply LeO.none|apply LeO.ite|refine LeO.bind ?_ fun _=> ?_
set_option maxHeartbeats 8000000 in
set_option maxRecDepth 100000 in
theorem tree_Up.calls (k:Nat) (A0:Option Addr) (c0:Nat) (l0:List (S79)) (a1:ByteArray) (r:List ByteArray) (w:World) (hr0:Kd.C k79 w A0 l0.length l0) (hc0:l0.length≤c0) (h:tree_Up.f k l0 a1=some r):
  Calls Try.prog 153 #[.slice A0 l0.length c0, .string a1] w fun e w'=> ∃v0_:Value,e= .returned (v0_)∧Kd.R Kd.string 9 w' w.heap.size (fun _=>True) v0_ r∧Below w.heap.size w w':=by
 have HR0:=Aside0.mk hr0;have HC0:=Aside0.mk hc0;clear hr0 hc0;have HB:=am_ (Below.refl w.heap.size w);have H:((tree_Find.f l0 a1).bind fun t1=>(tree_Up.l0 k l0 ([]:List ByteArray) t1))=some r:=h;clear h;replace H:=zbd_ H;obtain ⟨t1,A3,H⟩:=H;try dsimp only at H
 have H':=Aside0.mk H;clear H;go_enter Try.func153,Try.ntmps153;go_wp2_with (first|((with_reducible refine gate_callee (f:=91) rfl ?_);refine gl_ (some 9) Try.func91 #[.slice A0 l0.length c0, .string a1] ?_;(with_reducible refine (tree_Find.calls _ _ l0 a1 t1 _ ?side1 ?side2 A3.out).mono ?_);(case side1=>repeat (first|exact HR0.out|(with_reducible refine Kd.C_alloc ?_ _)|(with_reducible refine Kd.C_drewN ?_ _)|(with_reducible refine Kd.C_drew ?_)));(case side2=>exact HC0.out);rintro e w4 ⟨rfl,hb⟩;refine ⟨_,rfl, ?_⟩;replace HB:=am_ (below_step (zl0_ HB) hb);(try clear hb)))
 go_loopg [5,6] k (fun kq v5 v6 w'=> ∃(x5_1:List ByteArray) (x6_1:Int),v6= .int .i64 x6_1∧Aside0 (tree_Up.l0 kq l0 x5_1 x6_1=some r)∧Aside0 (kq≤k)∧Aside0 (Kd.R Kd.string 9 w' w.heap.size (fun _=>True) v5 x5_1)∧Aside0 (Below w.heap.size w w'))
 case atStart=>exact ⟨(([]:List ByteArray)),(t1),rf_,H',⟨Nat.le_refl _⟩,⟨by first|exact Kd.R_nil _ _ _ _ _|exact Kd.N_nil _ _ _ _ _|exact Kd.V_nil _ _ _ _ _|exact Kd.Q_nil _ _ _ _ _|exact Kd.S_nil _ _ _ _ _⟩,⟨zl0_ HB⟩⟩
 case round=>
  clear H';obtain ⟨x5_1,x6_1,rfl,HA,HK1,HO_5,HB⟩:=hrel
  cases gk with
  |zero=>exact absurd HA.out (by simp [tree_Up.l0])
  |succ k1=>
   have H:=HA.out;clear HA;simp only [tree_Up.l0] at H;by_cases c5:x6_1≥0;rotate_left
   ·rw [if_neg c5] at H;have c5b0:decide (0≤x6_1)=false:=decide_eq_false c5;clear c5;obtain rfl:=Option.some.inj H;go_wp2
    go_ret
    exact ⟨_,er_,zr_ HO_5,zl0_ HB⟩

   rw [if_pos c5] at H;have c5b0:decide (0≤x6_1)=true:=decide_eq_true c5;clear c5;by_cases c6:(x5_1.length:Int)≤(l0.length:Int);rotate_left
   ·rw [if_neg c6] at H;have c6b0:=decide_eq_false c6;have c6b1:decide (x5_1.length≤l0.length)=false:=decide_eq_false (fun h=>c6 (Int.ofNat_le.mpr h));clear c6;obtain rfl:=Option.some.inj H;obtain ⟨Ao14,co14,eo14⟩:=Kd.R_slice HO_5.out;subst eo14;go_wp2
    go_ret
    exact ⟨_,er_,zr_ HO_5,zl0_ HB⟩
   rw [if_pos c6] at H;have c6b0:=decide_eq_true c6;have c6b1:decide (x5_1.length≤l0.length)=true:=decide_eq_true (Int.ofNat_le.mp c6);clear c6;replace H:=zif_ H;obtain ⟨c7,H⟩:=H;replace c7:=decide_eq_true c7;replace H:=zif_ H;obtain ⟨c8,H⟩:=H;replace c8:=decide_eq_true c8;replace H:=zif_ H;obtain ⟨c9,H⟩:=H;have LMc9:=Aside0.mk c9;clear c9;obtain ⟨y3,hy3⟩: ∃y_:List ByteArray,y_=(x5_1++ [(rd_T79 l0 x6_1).f0]):=⟨_,rfl⟩;(first|replace H:=zsb_ hy3 H|rw [←hy3] at H);have Ny3:=Aside0.mk hy3;clear hy3;replace H:=zbd_ H;obtain ⟨t7,A10,H⟩:=H;try dsimp only at H
   have H':=Aside0.mk H;clear H;obtain ⟨Ao11,co11,eo11⟩:=Kd.R_slice HO_5.out;subst eo11;obtain ⟨p2,q2,ad2,e2,hx2_0,hx2_1,hx2_2,hx2_3,hx2_4,hx2_5,hx2_6,hx2_7,hx2_8,hx2_9,hx2_10,hx2_11⟩:=zat_ (at_T79 HR0.out x6_1);cases e2;replace hx2_0:=zx12_ HB hx2_0 hx2_1 hx2_2 hx2_3 hx2_4 hx2_5 hx2_6 hx2_7 hx2_8 hx2_9 hx2_10 hx2_11;clear hx2_1 hx2_2 hx2_3 hx2_4 hx2_5 hx2_6 hx2_7 hx2_8 hx2_9 hx2_10 hx2_11;obtain ⟨hx2_0,hx2_1,hx2_2,hx2_3,hx2_4,hx2_5,hx2_6,hx2_7,hx2_8,hx2_9,hx2_10,hx2_11⟩:=hx2_0
   go_wp2_with (first|((with_reducible refine gate_builtin (b:= .append) (xs:=#[.tmp 26, .tmp 32]) rfl ?_);(try (refine gate_guard (by rfl) ?_;dsimp only));at_builtin;refine Kd.R_append Kd.string (w0:=w) w.heap.size rfl (.tmp 26) (.tmp 32) 85 9 (.string ⟨#[]⟩) 16 rfl Try.underlying85 info9 rfl (by decide) (by omega) (.slice Ao11 x5_1.length co11) x5_1 ((rd_T79 l0 x6_1).f0) [.string ((rd_T79 l0 x6_1).f0)] (fun _=>True) (fun _=>False) rfl rfl ?aP (fun _ hk=>hk.elim) ?aF ?aO ?aB ?aS ?aL ?_;(case aP=>exact rfl);(case aB=>exact (zl0_ HB));(case aF=>exact (fun _ _=>trivial));(case aO=>exact (zr_ HO_5));(case aS=>exact (below_size (zl0_ HB)));(case aL=>have:=LMc9.out;omega);intro v4 w12 ho hb hg hat;rw [←Ny3.out] at ho;have n0_:=am_ (hb);have n1_:=am_ (ho);clear HB;clear HO_5;have HB:=n0_;have HO5:=n1_;clear n0_ n1_;clear ho hb hg hat;have p6:0≤(x6_1:Int):=of_decide_eq_true zq_;have q6:x6_1<(l0.length:Int):=of_decide_eq_true zq_;obtain ⟨ad6,e6,hx6_0,hx6_1,hx6_2,hx6_3,hx6_4,hx6_5,hx6_6,hx6_7,hx6_8,hx6_9,hx6_10,hx6_11⟩:=at_T79 HR0.out x6_1 p6 q6;obtain rfl:ad2=ad6:=(by injection e6);replace hx6_0:=zx12_ HB hx6_0 hx6_1 hx6_2 hx6_3 hx6_4 hx6_5 hx6_6 hx6_7 hx6_8 hx6_9 hx6_10 hx6_11;clear hx6_1 hx6_2 hx6_3 hx6_4 hx6_5 hx6_6 hx6_7 hx6_8 hx6_9 hx6_10 hx6_11;obtain ⟨hx6_0,hx6_1,hx6_2,hx6_3,hx6_4,hx6_5,hx6_6,hx6_7,hx6_8,hx6_9,hx6_10,hx6_11⟩:=hx6_0;replace p6:=eq_true p6;replace q6:=eq_true q6)|((with_reducible refine gate_callee (f:=91) rfl ?_);refine gl_ (some 25) Try.func91 #[.slice (some ad2) l0.length c0, .string ((rd_T79 l0 x6_1).f1)] ?_;(with_reducible refine (tree_Find.calls _ _ l0 ((rd_T79 l0 x6_1).f1) t7 _ ?side1 ?side2 A10.out).mono ?_);(case side1=>exact zc_ (Kd.C_below HR0.out HB.out));(case side2=>exact HC0.out);rintro e w13 ⟨rfl,hb⟩;refine ⟨_,rfl, ?_⟩;replace HO5:=ob_ HO5 hb;replace HB:=am_ (below_step (zl0_ HB) hb);(try clear hb)))
   go_roundg k1
   case measure=>have:=HK1.out;omega
   case rel=>exact ⟨(y3),(t7),rf_,H',⟨by have:=HK1.out;omega⟩,am_ (zr_ HO5),⟨zl0_ HB⟩⟩
def slices_Index_string_string.l0:Nat→List ByteArray→ByteArray→Int→Int→Option (Int)
 |0,_,_,_,_=>none
 |k+1,x0,x1,x7,x8=>if x8<x7 then (if 0≤x8 then (if x8<(x0.length:Int) then (if x1.toList=(rdOf ByteArray.empty x0 x8).toList then (some x8) else (slices_Index_string_string.l0 k x0 x1 x7 (wrap64 (x8+1)))) else (none)) else (none)) else (some (-1))
def slices_Index_string_string.f (k:Nat) (l0:List ByteArray) (a1:ByteArray):Option (Int):=slices_Index_string_string.l0 k l0 a1 (l0.length:Int) 0
theorem slices_Index_string_string.mono_l: ∀k,(∀y0 y1 y2 y3,LeO (slices_Index_string_string.l0 k y0 y1 y2 y3) (slices_Index_string_string.l0 (k+1) y0 y1 y2 y3))
 |0=>fun _ _ _ _ r h=>by simp [slices_Index_string_string.l0] at h
 |k+1=>by
  have ih0:=slices_Index_string_string.mono_l k;intro y0 y1 y2 y3;unfold slices_Index_string_string.l0
  repeat' with_reducible first|apply ih0|apply LeO.refl|apply LeO.none|apply LeO.ite|refine LeO.bind ?_ fun _=> ?_
theorem slices_Index_string_string.mono: ∀a0 a1 k,LeO (slices_Index_string_string.f k a0 a1) (slices_Index_string_string.f (k+1) a0 a1):=by
 intro a0 a1 k;have ih0:=slices_Index_string_string.mono_l k;unfold slices_Index_string_string.f
 repeat' with_reducible first|apply ih0|apply LeO.refl|apply LeO.none|apply LeO.ite|refine LeO.bind ?_ fun _=> ?_
set_option maxHeartbeats 8000000 in
set_option maxRecDepth 100000 in
theorem slices_Index_string_string.calls (k:Nat) (A0:Option Addr) (c0:Nat) (l0:List ByteArray) (a1:ByteArray) (r:Int) (w:World) (hr0:Kd.C Kd.string w A0 l0.length l0) (hc0:l0.length≤c0) (h:slices_Index_string_string.f k l0 a1=some r):
  Calls Try.prog 174 #[.slice A0 l0.length c0, .string a1] w fun e w'=>e= .returned (.int .i64 r)∧Drawn0 w w':=by
 have HR0:=Aside0.mk hr0;have HC0:=Aside0.mk hc0;clear hr0 hc0;have H:(slices_Index_string_string.l0 k l0 a1 (l0.length:Int) 0)=some r:=h;clear h;have H':=Aside0.mk H;clear H;go_enter Try.func174,Try.ntmps174;go_wp2
 go_loopg [8] k (fun kq v8 w'=> ∃(x8_1:Int),v8= .int .i64 x8_1∧Aside0 (slices_Index_string_string.l0 kq l0 a1 (l0.length:Int) x8_1=some r)∧Aside0 (kq≤k)∧Drawn0 w w')
 case atStart=>exact ⟨(0),rf_,H',⟨Nat.le_refl _⟩,by repeat (first|exact Drawn0.refl _|apply Drawn0.step)⟩
 case round=>
  clear H';obtain ⟨x8_1,rfl,HA,HK1,⟨m1,rfl⟩⟩:=hrel
  cases gk with
  |zero=>exact absurd HA.out (by simp [slices_Index_string_string.l0])
  |succ k1=>
   have H:=HA.out;clear HA;simp only [slices_Index_string_string.l0] at H;by_cases c3:x8_1<(l0.length:Int);rotate_left
   ·rw [if_neg c3] at H;have c3b0:=decide_eq_false c3;clear c3;obtain rfl:=Option.some.inj H;go_wp2
    go_ret
    exact ⟨by first|rfl|(simp;done)|(simp [*];done),by repeat (first|exact Drawn0.refl _|apply Drawn0.step)⟩

   rw [if_pos c3] at H;have c3b0:=decide_eq_true c3;clear c3;replace H:=zif_ H;obtain ⟨c4,H⟩:=H;replace c4:=decide_eq_true c4;replace H:=zif_ H;obtain ⟨c5,H⟩:=H;replace c5:=decide_eq_true c5;by_cases c6:a1.toList=(rdOf ByteArray.empty l0 x8_1).toList
   ·rw [if_pos c6] at H;have c6b0:=beq_iff_eq.mpr c6;have c6b1:=bne_eq_false_iff_eq.mpr c6;clear c6;obtain rfl:=Option.some.inj H;obtain ⟨p1,q1,ad1,e1,hx1_0⟩:=zat_ (Kd.at_string HR0.out x8_1);cases e1;go_wp2
    go_ret
    exact ⟨by first|rfl|(simp;done)|(simp [*];done),by repeat (first|exact Drawn0.refl _|apply Drawn0.step)⟩
   rw [if_neg c6] at H;have c6b0:=beq_eq_false_iff_ne.mpr c6;have c6b1:=bne_iff_ne.mpr c6;have H':=Aside0.mk H;clear H;obtain ⟨p1,q1,ad1,e1,hx1_0⟩:=zat_ (Kd.at_string HR0.out x8_1);cases e1;go_wp2
   go_roundg k1
   case measure=>have:=HK1.out;omega
   case rel=>exact ⟨(wrap64 (x8_1+1)),rf_,H',⟨by have:=HK1.out;omega⟩,by repeat (first|exact Drawn0.refl _|apply Drawn0.step)⟩
def slices_Contains_string_string.f (k:Nat) (l0:List ByteArray) (a1:ByteArray):Option (Bool):=(slices_Index_string_string.f k l0 a1).bind fun t1=>(some (decide (t1≥0)))
theorem slices_Contains_string_string.mono: ∀a0 a1 k,LeO (slices_Contains_string_string.f k a0 a1) (slices_Contains_string_string.f (k+1) a0 a1):=by
 intro a0 a1 k;unfold slices_Contains_string_string.f
 repeat' with_reducible first|apply slices_Index_string_string.mono|apply LeO.refl|apply LeO.none|apply LeO.ite|refine LeO.bind ?_ fun _=> ?_
set_option maxHeartbeats 8000000 in
set_option maxRecDepth 100000 in
theorem slices_Contains_string_string.calls (k:Nat) (A0:Option Addr) (c0:Nat) (l0:List ByteArray) (a1:ByteArray) (r:Bool) (w:World) (hr0:Kd.C Kd.string w A0 l0.length l0) (hc0:l0.length≤c0) (h:slices_Contains_string_string.f k l0 a1=some r):
  Calls Try.prog 160 #[.slice A0 l0.length c0, .string a1] w fun e w'=>e= .returned (.bool r)∧Drawn0 w w':=by
 have HR0:=Aside0.mk hr0;have HC0:=Aside0.mk hc0;clear hr0 hc0;have H:((slices_Index_string_string.f k l0 a1).bind fun t1=>(some (decide (t1≥0))))=some r:=h;clear h;replace H:=zbd_ H;obtain ⟨t1,A3,H⟩:=H;try dsimp only at H
 obtain rfl:=Option.some.inj H;go_enter Try.func160,Try.ntmps160;go_wp2_with (first|((with_reducible refine gate_callee (f:=174) rfl ?_);refine gl_ (some 7) Try.func174 #[.slice A0 l0.length c0, .string a1] ?_;(with_reducible refine (slices_Index_string_string.calls k _ _ l0 a1 t1 _ ?side1 ?side2 A3.out).mono ?_);(case side1=>repeat (first|exact HR0.out|(with_reducible refine Kd.C_alloc ?_ _)|(with_reducible refine Kd.C_drewN ?_ _)|(with_reducible refine Kd.C_drew ?_)));(case side2=>exact HC0.out);rintro e w' ⟨rfl,⟨nd,rfl⟩⟩;refine ⟨_,rfl, ?_⟩))
 go_ret
 exact ⟨by first|rfl|(simp;done)|(simp [*];done),by repeat (first|exact Drawn0.refl _|apply Drawn0.step)⟩

end Go.Proofs.Ytahidkjncljkaaa.Print

namespace Go.Proofs.Ytahidkjncljkaaa.Print
open Go.RowKit Go.Proofs.YtahidkjncljkaaaW.PrintWords Go.Proofs.YtahidkjncljkaaaW.PrintLast Go.Proofs.YtahidkjncljkaaaW.PrintMore
theorem at_str {w:World} {A:Option Addr} {n:Nat} {xs:List ByteArray} (h:Kd.C Kd.string w A n xs) (i:Int) (h0:0≤i) (h1:i<n): ∃ad,A=some ad∧w.cell? (ad.add i.toNat)=some (.string (rdOf ByteArray.empty xs i)):=by
 obtain ⟨ad,c,e,_,hK,hc⟩:=Kd.C_get h ByteArray.empty i h0 h1;have hc0: ∀j u,c[j]?=some u→w.cell? (ad.add (i.toNat*1+j))=some u:=hc;obtain rfl:c=[.string (xs.getD i.toNat ByteArray.empty)]:=hK;have:=hc0 0 _ rfl
 rw [Nat.mul_one,Nat.add_zero] at this;exact ⟨ad,e,this⟩
end Go.Proofs.Ytahidkjncljkaaa.Print

namespace Go.Proofs.Ytahidkjncljkaaa.Print
open Go.RowKit Go.Proofs.YtahidkjncljkaaaW.PrintWords Go.Proofs.YtahidkjncljkaaaW.PrintLast Go.Proofs.YtahidkjncljkaaaW.PrintMore
attribute [local go_sem] max2_int min2_int max_two min_two max_three min_three max_four min_four

set_option maxHeartbeats 8000000 in
set_option maxRecDepth 100000 in
theorem shapeShift_calls (g:Nat) (lb:Array Value) (op:S37→S37) (gS:Nat) (ob:Obj) (base bu:Nat) (v:Value) (out r:List S79) (j0:Int) (Au:Option Addr) (cu:Nat) (us:List ByteArray) (w:World)
    (eg: ∀args w,(callFunc g args).run Try.prog w= .ok (.enter g args) w) (hr:Kd.R k79 79 w base (fun _=>True) v out) (hbase:base≤w.heap.size) (hs:w.heap[gS]?=some ob) (hne:some gS≠v.ownBlock)
    (hu:Kd.R Kd.string 9 w bu (fun _=>True) (.slice Au us.length cu) us)
    (hp: ∀W' u,W'.heap[gS]?=some ob→Calls Try.prog g (#[.agg #[.int .i64 u.f0, .int .i64 u.f1, .int .i64 u.f2]]++lb) W' fun e w'=>e= .returned (.agg #[.int .i64 (op u).f0, .int .i64 (op u).f1, .int .i64 (op u).f2])∧Below W'.heap.size W' w')
    (h:shiftF op us out=some r):
    Calls Try.prog 161 #[.agg #[v, .int .i64 j0], .slice Au us.length cu, .func (.func g) #[] lb] w fun e w'=>e= .returned (.tuple #[])∧Kd.R k79 79 w' base (fun _=>True) v r∧Turned w w' base v:=by
  have hu197:=Try.underlying197
  have hu195:=Try.underlying195
  have hu79:=Try.underlying79
  have hu37:=Try.underlying37
  have hm:us.length≤9223372036854775807:=(Kd.R_reads' hu).2.2.2.1
  have hm2:out.length≤9223372036854775807:=by obtain ⟨A,c,rfl,_,hh⟩:=Kd.R_reads hr;exact hh.2.1
  have HO:=Aside0.mk hr
  have HU:=Aside0.mk hu
  have HP:=Aside0.mk hp
  have HS:=Aside0.mk hs
  have HF:=Aside0.mk h
  have HNE:=Aside0.mk hne
  have HB:=am_ (Below.refl w.heap.size w)
  have HBS:=Aside0.mk hbase
  have HLT:=am_ (Kd.R_lt hr)
  obtain ⟨A5,c5,rfl⟩: ∃A5 c5,v= .slice A5 out.length c5:=Kd.R_slice hr
  clear hr hu hp hs hne h hbase
  obtain ⟨n,hn⟩: ∃n,n=out.length:=⟨_,rfl⟩
  rw [←hn] at HO HNE HLT hm2 ⊢
  have HN:=Aside0.mk hn.symm
  clear hn
  go_enter Try.func161,Try.ntmps161
  go_wp2_with (first|((with_reducible refine gate_dst (N:=3) rfl ?_);refine bx_ (N:=3) (cs:=#[.slice A5 n c5, .int .i64 j0]) (t:=197) ?_;intro gb3 hg w1 hbox hb;replace HO:=am_ (Kd.R_below HO.out hb);replace HU:=am_ (Kd.R_below HU.out hb);replace HS:=am_ (blk_below HS.out hb);have BK3:=am_ (hbox);have GE3:=am_ ((by rw [hg];exact below_size HB.out:w.heap.size≤gb3));replace HB:=am_ (below_step HB.out hb);have EQ3:=am_ (hg);clear hb hbox hg;have cgb3_0:=(blk_cell BK3.out 0).trans rfl;have cgb3_1:=(blk_cell BK3.out 1).trans rfl))
  have NE3:=am_ (show some gb3≠(Value.slice A5 n c5).ownBlock from fun e=>by have:=HLT.out _ e.symm;have:=EQ3.out;omega)
  have HT:=am_ (Turned.of_below (base:=base) (v:= .slice A5 n c5) HB.out HBS.out)
  clear HB GE3 EQ3
  go_loopg [7,8,11] us.length (fun kq s7 s8 s11 wr=> ∃(i:Nat) (cur:List S79),i≤us.length∧us.length - i≤kq∧s11= .int .i64 i∧Aside0 (cur.length=n)∧Aside0 (shiftF op (us.drop i) cur=some r)∧Aside0 (Turned w wr base (.slice A5 n c5))∧Aside0 (wr.heap[gb3]?=some (.cells #[.slice A5 n c5, .int .i64 j0] 197 (0,0)))∧Aside0 (wr.heap[gS]?=some ob)∧Aside0 (Kd.R k79 79 wr base (fun _=>True) (.slice A5 n c5) cur)∧Aside0 (Kd.R Kd.string 9 wr bu (fun _=>True) (.slice Au us.length cu) us))
  case atStart=>exact ⟨0,out,by omega,by omega,rfl,HN,HF,HT,BK3,HS,HO,HU⟩
  case round=>
    clear HO BK3 HT HF HS HU HN cgb3_0 cgb3_1
    obtain ⟨i,cur,hi,hg,rfl,HN,HF,HT,BK3,HS,HO,HU⟩:=hrel
    have cgb3_0:=(blk_cell BK3.out 0).trans rfl
    have cgb3_1:=(blk_cell BK3.out 1).trans rfl
    by_cases hlt:i<us.length
    rotate_left
    · obtain rfl : i = us.length := by omega
      have hf:=HF.out
      rw [List.drop_length] at hf
      cases hf
      go_wp2_with fail
      first|go_end0|refine bodyPost_end (results_none rfl _ _ _) rfl ?_
      exact ⟨rfl,HO.out,HT.out⟩


    have hltz:(i:Int)<(us.length:Int):=by omega
    have hdr:us.drop i=us[i]::us.drop (i+1):=List.drop_eq_getElem_cons hlt
    have hf:=HF.out
    rw [hdr] at hf
    unfold shiftF at hf
    obtain ⟨j,hj,hf2⟩:=Option.bind_eq_some_iff.1 hf
    split at hf2
    case isFalse=>cases hf2
    case isTrue hjb=>
    obtain ⟨hj0,hj1⟩:=hjb
    have hst:rdOf ByteArray.empty us (i:Int)=us[i]:=by simp [rdOf,hlt]
    rw [←hst] at hj
    obtain ⟨ad,e1,h0⟩:=at_str (Kd.R_reads' HU.out).2.2 (i:Int) (by omega) (by omega)
    cases e1
    simp only [Int.toNat_natCast] at h0
    obtain ⟨gb,cap,hv5,hgb,hgl⟩:=sh_head HO.out (by omega)
    rw [HN.out] at hv5
    cases hv5
    have hcs:=sh_cells' HO.out HN.out j hj0 (by rw [HN.out] at hj1;exact hj1)
    have HJ:=Aside0.mk hj
    have HF2:=Aside0.mk hf2
    have HJ0:=Aside0.mk hj0
    have HJ1:=am_ (show j<(n:Int) from by rw [HN.out] at hj1;exact hj1)
    generalize hy:rd_T79 cur j=y at hcs
    have HY:=Aside0.mk hy
    have HCS:=Aside0.mk hcs
    have HGB:=Aside0.mk hgb
    have HGL:=Aside0.mk hgl
    have HB0:=am_ (Below.refl wr.heap.size wr)
    have q0:(0≤j)=True:=eq_true hj0
    have q1:(j<(n:Int))=True:=eq_true HJ1.out
    have hB0:Below wr.heap.size wr wr:=Below.refl _ _
    have hBd:Below wr.heap.size wr wr.drew:=below_drew hB0
    clear hf hf2 hdr hst hcs hy hgb hgl hj hj0 hj1 HF
    go_wp2_with fail
    go_region_held3 (fun w'=>w'.cell? ⟨gb3,0,none⟩=some (.slice (some ⟨gb,0,none⟩) n c5)∧Below wr.heap.size wr w')
      (first|(go_keep;done)|(go_split_ands;refine ⟨?_, ?_⟩<;>first|exact below_step (by assumption) hb|exact pw_cell_below hb (by first|assumption|(go_keep;done))))
      (first|(go_at_call 91;refine calls_of_args (args':=#[.slice (some ⟨gb,0,none⟩) cur.length c5, .string (rdOf ByteArray.empty us i)]) (by rw [HN.out]) ((tree_Find.calls _ _ cur _ j _ (Kd.R_reads' (HN.out▸Kd.R_below HO.out (by first|assumption|(go_split_ands;assumption)))).2.2 (by have:=(Kd.R_reads' HO.out).2.1;rw [HN.out];exact this) HJ.out).mono ?_);rintro e w' ⟨rfl,hb⟩))
    rename_i hHeld
    have hBz:Below wr.heap.size wr w':=hHeld.2
    clear hHeld hB0 hBd cgb3_0 cgb3_1 h0
    (try clear hb)
    have HT4:=am_ (HT.out.below_ (Nat.le_trans HBS.out HT.out.below.size) hBz)
    have BK4:=am_ (blk_below BK3.out hBz)
    have HS4:=am_ (blk_below HS.out hBz)
    have HO4:=am_ (Kd.R_below HO.out hBz)
    have HU4:=am_ (Kd.R_below HU.out hBz)
    have HGL4:=am_ (Nat.lt_of_lt_of_le HGL.out hBz.size)
    have HCS4:=am_ (fun j' u hu=>(hBz.cell (p:=⟨gb,j.toNat*12+j',none⟩) HGL.out).trans (HCS.out j' u hu))
    clear hBz HT BK3 HS HO HU HGL HCS
    have k8:w'.cell? ⟨gb,j.toNat*12+8,none⟩=some (.int .i64 y.f4.f0):=HCS4.out 8 _ rfl
    have k9:w'.cell? ⟨gb,j.toNat*12+8+1,none⟩=some (.int .i64 y.f4.f1):=HCS4.out 9 _ rfl
    have k10:w'.cell? ⟨gb,j.toNat*12+8+2,none⟩=some (.int .i64 y.f4.f2):=HCS4.out 10 _ rfl
    go_wp2_with fail
    refine (HP.out w' y.f4 HS4.out).mono ?_
    rintro e w4 ⟨rfl,hb⟩
    have HT5:=am_ (HT4.out.below_ (Nat.le_trans HBS.out HT4.out.below.size) hb)
    have BK5:=am_ (blk_below BK4.out hb)
    have HS5:=am_ (blk_below HS4.out hb)
    have HO5:=am_ (Kd.R_below HO4.out hb)
    have HU5:=am_ (Kd.R_below HU4.out hb)
    have HCS5:=am_ (fun j' u hu=>(hb.cell (p:=⟨gb,j.toNat*12+j',none⟩) HGL4.out).trans (HCS4.out j' u hu))
    clear hb HT4 BK4 HS4 HO4 HU4 HCS4 k8 k9 k10
    clear eg
    go_wp2_with ((with_reducible refine gate_store (t:=37) (p:=32) (v:= .tmp 30) rfl ?_);refine Kd.R_store k79 (w0:=w4) base rfl rfl 37 (.tmp 32) (.tmp 30) rfl 79 (g:=gb) (n:=n) (cap:=c5) (o':=j.toNat*12+8) j 8 cur (shSub op y) (.agg #[.int .i64 (op y.f4).f0, .int .i64 (op y.f4).f1, .int .i64 (op y.f4).f2]) [.int .i64 (op y.f4).f0, .int .i64 (op y.f4).f1, .int .i64 (op y.f4).f2] (shCells y) (fun _=>True) (fun _=>False) rfl rfl rfl rfl ?ct ?c1 HO5.out ?c2 ?c3 rfl HCS5.out (by show 8+3≤12;omega) ?cM (fun _ h=>h.elim) (Below.refl _ _) ?_;(case ct=>kernel_rfl);(case c1=>intro q hq;simp only [List.mem_cons,List.not_mem_nil,or_false] at hq;rcases hq with rfl|rfl|rfl<;>rfl);(case c2=>exact HJ0.out);(case c3=>exact HJ1.out);(case cM=>exact k79_mkM _ _ _ (shSub op y));intro w5 ho hb hg;have HO6:=Aside0.mk ho;have HG6:=Aside0.mk hg;clear ho hb hg)
    have HT6:=am_ (HT5.out.grown_ (Nat.le_trans HBS.out HT5.out.below.size) HGB.out HG6.out)
    have BK6:=am_ (blk_put_other BK5.out HG6.out (fun e=>NE3.out (by rw [e];rfl)))
    have HS6:=am_ (blk_put_other HS5.out HG6.out (fun e=>HNE.out (by rw [e];rfl)))
    have HU6:=am_ (R_turned HU5.out HO5.out (by decide) ((Turned.of_below (Below.refl _ _) (Nat.le_trans HBS.out HT5.out.below.size)).then_grown (Nat.le_trans HBS.out HT5.out.below.size) HGB.out HG6.out))
    go_roundg (us.length - (i+1))
    case measure=>omega
    case rel=>
      refine ⟨i+1,cur.set j.toNat (shSub op y),by omega,by omega,by go_num,⟨by rw [List.length_set];exact HN.out⟩,⟨?_⟩,HT6,BK6,HS6,HO6,HU6⟩
      have:=HF2.out
      rw [HY.out] at this
      exact this
theorem vecSub1_calls (x y:Int) (W:World):Calls Try.prog 175 #[.int .i64 x, .int .i64 y] W fun e w'=>e= .returned (.int .i64 (wrap64 (x - y)))∧w'=W:=by
 go_enter Try.func175,Try.ntmps175
 go_wp2
 go_ret
 exact ⟨rfl,rfl⟩
theorem vec_one_row {W:World} {g:Nat} (x:S37) (h:W.heap[g]?=some (.cells #[.int .i64 x.f0, .int .i64 x.f1, .int .i64 x.f2] 37 (0,0))):Kd.C k37 W (some ⟨g,0,none⟩) [x].length [x]:=by
 refine ⟨rfl,by simp,fun _=>⟨_,rfl,fun j p hj=> ?_⟩⟩
 obtain ⟨rfl,rfl⟩:j=0∧x=p:=by
  cases j with
  |zero=>exact ⟨rfl,by simpa using hj⟩
  |succ j=>simp at hj
 refine ⟨_,rfl,k37_mk W x,fun i u hi=> ?_⟩
 rw [Addr.add_lit,blk_cell h,←hi]
 simp
theorem vec_two_row {W:World} {g:Nat} (x y:S37) (h:W.heap[g]?=some (.cells #[.int .i64 x.f0, .int .i64 x.f1, .int .i64 x.f2, .int .i64 y.f0, .int .i64 y.f1, .int .i64 y.f2] 37 (0,0))):Kd.C k37 W (some ⟨g,0,none⟩) [x,y].length [x,y]:=by
  refine ⟨rfl,by simp,fun _=>⟨_,rfl,fun j p hj=> ?_⟩⟩
  match j,hj with
  | 0, hj =>
    obtain rfl:x=p:=by simpa using hj
    refine ⟨_,rfl,k37_mk W x,fun i u hi=> ?_⟩
    rw [Addr.add_lit,blk_cell h]
    match i,hi with
    |0,hi=>exact hi
    |1,hi=>exact hi
    |2,hi=>exact hi
    |i+3,hi=>simp at hi
  | 1, hj =>
    obtain rfl:y=p:=by simpa using hj
    refine ⟨_,rfl,k37_mk W y,fun i u hi=> ?_⟩
    rw [Addr.add_lit,blk_cell h]
    match i,hi with
    |0,hi=>exact hi
    |1,hi=>exact hi
    |2,hi=>exact hi
    |i+3,hi=>simp at hi
  |j+2,hj=>simp at hj
def vec_Sub.f (a0_0:Int) (a0_1:Int) (a0_2:Int) (a1_0:Int) (a1_1:Int) (a1_2:Int):Option (Int×Int×Int):=some (wrap64 (a0_0 - a1_0),wrap64 (a0_1 - a1_1),wrap64 (a0_2 - a1_2))
set_option maxHeartbeats 1000000 in
set_option maxRecDepth 100000 in
theorem vec_Sub.calls (a0_0:Int) (a0_1:Int) (a0_2:Int) (a1_0:Int) (a1_1:Int) (a1_2:Int) (r1:Int) (r2:Int) (r3:Int) (w:World) (h:vec_Sub.f a0_0 a0_1 a0_2 a1_0 a1_1 a1_2=some (r1,r2,r3)):
  Calls Try.prog 163 #[.agg #[.int .i64 a0_0, .int .i64 a0_1, .int .i64 a0_2], .agg #[.int .i64 a1_0, .int .i64 a1_1, .int .i64 a1_2]] w fun e w'=>e= .returned (.agg #[.int .i64 r1, .int .i64 r2, .int .i64 r3])∧Below w.heap.size w w':=by
 have hu37:=Try.underlying37;have HC:=am_ (fun (W:World) (g:Nat) (hb:W.heap[g]?=some (.cells #[.int .i64 a1_0, .int .i64 a1_1, .int .i64 a1_2] 37 (0,0)))=>vecBy_calls 175 (fun x y=>wrap64 (x - y)) (enters_of Try.func175 (by kernel_rfl) rfl) vecSub1_calls (some ⟨g,0,none⟩) 1 [⟨a1_0,a1_1,a1_2⟩] a0_0 a0_1 a0_2 W (vec_one_row ⟨a1_0,a1_1,a1_2⟩ hb) (Nat.le_refl _) (by simp [maxLen]));have HH:=Aside0.mk h;clear h;go_enter Try.func163,Try.ntmps163;go_wp2_with fail
 obtain ⟨w3,hw3⟩: ∃w3,w3=((w.alloc (.cells #[.int .i64 a0_0, .int .i64 a0_1, .int .i64 a0_2] 37)).alloc (.cells #[.int .i64 a1_0, .int .i64 a1_1, .int .i64 a1_2] 37)).alloc (.cells #[.int .i64 0, .int .i64 0, .int .i64 0] 37):=⟨_,rfl⟩;have hs3:w3.heap.size=w.heap.size+1+1+1:=by rw [hw3];simp
 have hz3:w3.heap[w.heap.size+1+1]?=some (.cells #[.int .i64 0, .int .i64 0, .int .i64 0] 37 (0,0)):=by rw [hw3];have:=blk_new ((w.alloc (.cells #[.int .i64 a0_0, .int .i64 a0_1, .int .i64 a0_2] 37)).alloc (.cells #[.int .i64 a1_0, .int .i64 a1_1, .int .i64 a1_2] 37)) (.cells #[.int .i64 0, .int .i64 0, .int .i64 0] 37);simpa using this
 have hb3:Below w.heap.size w w3:=by rw [hw3];exact below_alloc (below_alloc (below_alloc (Below.refl _ _) _) _) _
 rw [←hw3,←hs3];clear hw3;have hn:=blk_new w3 (.cells #[.int .i64 a1_0, .int .i64 a1_1, .int .i64 a1_2] 37);refine (HC.out _ _ hn).mono ?_;rintro e w1 ⟨rfl,hb⟩;have h:=Option.some.inj (show some (vecByF (fun x y=>wrap64 (x - y)) [⟨a1_0,a1_1,a1_2⟩] a0_0 a0_1 a0_2)=some (r1,r2,r3) from HH.out);rw [h];have HB:=am_ (below_step (below_step hb3 (below_alloc (Below.refl _ _) _)) hb);have HZ:=am_ (blk_below (blk_alloc hz3 (.cells #[.int .i64 a1_0, .int .i64 a1_1, .int .i64 a1_2] 37)) hb);clear h hb hn hb3 hz3 HC;have HS3:=Aside0.mk hs3;clear hs3;obtain ⟨_,_,_⟩:=xz3_ HZ;obtain ⟨_,_,_⟩:=ff3_ HZ;have hs1:w.heap.size+1+1<w1.heap.size:=blk_lt HZ.out;go_wp2
 refine bodyPost_ret (results_cell_row rfl _ _ (w.heap.size+1+1) 37 #[.int .i64 r1, .int .i64 r2, .int .i64 r3] (0,0) _ rfl (blk_put (blk_put (blk_put HZ.out 0 _ rfl) 1 _ rfl) 2 _ rfl) Try.underlying37 rfl (by kernel_rfl)) rfl ?_;have hle:w.heap.size≤w.heap.size+1+1:=by omega
 exact ⟨rfl,below_set (below_set (below_set HB.out hle) hle) hle⟩


end Go.Proofs.Ytahidkjncljkaaa.Print

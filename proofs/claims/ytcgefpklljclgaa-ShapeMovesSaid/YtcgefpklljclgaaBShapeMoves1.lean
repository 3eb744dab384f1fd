/- ShapeMoves: a part -/
import Derived.Test.YtcgefpklljclgaaProg
import Derived.Below
import Derived.Deep.Draws
import Derived.Deep.AppendLies
import Derived.Maps.AppendAt
import Derived.OwnWalk
import Derived.Laws.BytesArg
import Derived.Laws.MakeOwn
import Derived.Laws.OwnMore
import Derived.Deep.OwnRows
import Derived.Tactics
import Derived.Lib.ConvBytes
import Derived.Laws.Slices
import Derived.WalkKit
import Derived.KernelRfl
import Derived.RowKit3
import Derived.Deep.LoopGhost
import Derived.Deep.QuietTactic
import Derived.BigQuiet
import Derived.WideLaws
import Derived.Deep.DeepCutAuto
import Derived.Deep.CutBlock
import Derived.Deep.RegionHeld3
import Derived.Laws.Rows
import Derived.Lib.AppendStr
import Derived.ArgAppend
import Derived.Laws.IdiomCopy
import Derived.OrdersHeld
import Derived.Laws.BitsLemmas
import Derived.RowKit
import Derived.Shelf.Abstract
import Derived.StillTailTactics
import Derived.WalkSpells
import Derived.Laws.Cover1
import Derived.Lib.SliceRun
import Derived.Lib.JoinLaws
import Derived.Lib.AppendZerosOnto
import Derived.Lib.Overlaps
import Derived.Laws.Externs
import Derived.Laws.NewBlocks
import Derived.Test.YtcgefpklljclgaaBShapeMoves0
set_option linter.unusedVariables false
set_option linter.unusedSimpArgs false
namespace Go.Proofs.Ytcgefpklljclgaa.Print
open Go.RowKit Go.Proofs.YtcgefpklljclgaaW.PrintWords Go.Proofs.YtcgefpklljclgaaW.PrintLast Go.Proofs.YtcgefpklljclgaaW.PrintMore
attribute [local go_sem] max2_int min2_int max_two min_two max_three min_three max_four min_four



def errW:Option Int→Value
 |none=> .nilIface
 |some c=> .iface 0 (.int .i64 c)
theorem errW_none:errW none= .nilIface:=rfl
theorem errW_some (c:Int):errW (some c)= .iface 0 (.int .i64 c):=rfl

theorem info9:(Try.prog.info? 9).map (fun i=>(i.zero,i.size,i.bytes))=some (some (.string ⟨#[]⟩),1,16):=by kernel_rfl
theorem info31:(Try.prog.info? 31).map (fun i=>(i.zero,i.size,i.bytes))=some (some (.agg #[(.string ⟨#[]⟩),(.string ⟨#[]⟩),(.int .i64 0),(.int .i64 0),(.int .i64 0),(.int .i64 0),(.int .i64 0),(.int .i64 0),(.int .i64 0),(.int .i64 0),(.int .i64 0),(.int .i64 0)]),12,112):=by kernel_rfl
-- the values' own types
structure S27 where
 f0:Int
 f1:Int
 f2:Int
def z27:S27:=⟨(0:Int),(0:Int),(0:Int)⟩
def k27:Kd S27:=Kd.iso (Kd.pair (Kd.int .i64) (Kd.pair (Kd.int .i64) (Kd.int .i64))) (fun x:S27=>(x.f0,x.f1,x.f2))
theorem k27_open {w:World} {x:S27} {cs:List Value} (h:k27.K w x cs):cs=[.int .i64 x.f0, .int .i64 x.f1, .int .i64 x.f2]:=by
 obtain ⟨_,_,rfl,rfl,⟨_,_,rfl,rfl,rfl⟩⟩:=h
 exact rfl
theorem k27_openM {w:World} {base:Nat} {ok:Nat→Prop} {x:S27} {cs:List Value} (h:k27.M w base ok x cs):cs=[.int .i64 x.f0, .int .i64 x.f1, .int .i64 x.f2]:=by
 obtain ⟨_,_,rfl,rfl,⟨_,_,rfl,rfl,rfl⟩⟩:=h
 exact rfl
theorem k27_mk (w:World) (x:S27):k27.K w x [.int .i64 x.f0, .int .i64 x.f1, .int .i64 x.f2]:=⟨[.int .i64 x.f0],[.int .i64 x.f1, .int .i64 x.f2],rfl,rfl,⟨[.int .i64 x.f1],[.int .i64 x.f2],rfl,rfl,rfl⟩⟩
theorem k27_mkM (w:World) (base:Nat) (ok:Nat→Prop) (x:S27):k27.M w base ok x [.int .i64 x.f0, .int .i64 x.f1, .int .i64 x.f2]:=⟨[.int .i64 x.f0],[.int .i64 x.f1, .int .i64 x.f2],rfl,rfl,⟨[.int .i64 x.f1],[.int .i64 x.f2],rfl,rfl,rfl⟩⟩
def rd_T27 (xs:List S27) (i:Int):S27:=xs.getD i.toNat z27
theorem at_T27 {w:World} {A:Option Addr} {n:Nat} {xs:List S27} (h:Kd.C k27 w A n xs) (i:Int) (h0:0≤i) (h1:i<n): ∃ad,A=some ad∧w.cell? (ad.add (i.toNat*3))=some (.int .i64 (rd_T27 xs i).f0)∧w.cell? ⟨(ad.add (i.toNat*3)).block,(ad.add (i.toNat*3)).off+1,none⟩=some (.int .i64 (rd_T27 xs i).f1)∧w.cell? ⟨(ad.add (i.toNat*3)).block,(ad.add (i.toNat*3)).off+2,none⟩=some (.int .i64 (rd_T27 xs i).f2):=by
 obtain ⟨ad,c,e,_,hK,hc0⟩:=Kd.C_get h z27 i h0 h1
 have hc: ∀j u,c[j]?=some u→w.cell? (ad.add (i.toNat*3+j))=some u:=hc0
 obtain rfl:=k27_open hK
 exact ⟨ad,e,hc 0 _ rfl,by rw [←add_field _ _ 1 (by omega)];exact hc 1 _ rfl,by rw [←add_field _ _ 2 (by omega)];exact hc 2 _ rfl⟩

structure S31 where
 f0:ByteArray
 f1:ByteArray
 f2:S27
 f3:S27
 f4:S27
 f5:Int
def z31:S31:=⟨(⟨#[]⟩:ByteArray),(⟨#[]⟩:ByteArray),z27,z27,z27,(0:Int)⟩
def k31:Kd S31:=Kd.iso (Kd.pair Kd.string (Kd.pair Kd.string (Kd.pair k27 (Kd.pair k27 (Kd.pair k27 (Kd.int .i64)))))) (fun x:S31=>(x.f0,x.f1,x.f2,x.f3,x.f4,x.f5))
theorem k31_open {w:World} {x:S31} {cs:List Value} (h:k31.K w x cs):cs=[.string x.f0, .string x.f1, .int .i64 x.f2.f0, .int .i64 x.f2.f1, .int .i64 x.f2.f2, .int .i64 x.f3.f0, .int .i64 x.f3.f1, .int .i64 x.f3.f2, .int .i64 x.f4.f0, .int .i64 x.f4.f1, .int .i64 x.f4.f2, .int .i64 x.f5]:=by
 obtain ⟨_,_,rfl,rfl,⟨_,_,rfl,rfl,⟨_,_,rfl,s2,⟨_,_,rfl,s5,⟨_,_,rfl,s8,rfl⟩⟩⟩⟩⟩:=h
 obtain rfl:=k27_open s2
 obtain rfl:=k27_open s5
 obtain rfl:=k27_open s8
 exact rfl
theorem k31_openM {w:World} {base:Nat} {ok:Nat→Prop} {x:S31} {cs:List Value} (h:k31.M w base ok x cs):cs=[.string x.f0, .string x.f1, .int .i64 x.f2.f0, .int .i64 x.f2.f1, .int .i64 x.f2.f2, .int .i64 x.f3.f0, .int .i64 x.f3.f1, .int .i64 x.f3.f2, .int .i64 x.f4.f0, .int .i64 x.f4.f1, .int .i64 x.f4.f2, .int .i64 x.f5]:=by
 obtain ⟨_,_,rfl,rfl,⟨_,_,rfl,rfl,⟨_,_,rfl,s2,⟨_,_,rfl,s5,⟨_,_,rfl,s8,rfl⟩⟩⟩⟩⟩:=h
 obtain rfl:=k27_openM s2
 obtain rfl:=k27_openM s5
 obtain rfl:=k27_openM s8
 exact rfl
theorem k31_mkM (w:World) (base:Nat) (ok:Nat→Prop) (x:S31):k31.M w base ok x [.string x.f0, .string x.f1, .int .i64 x.f2.f0, .int .i64 x.f2.f1, .int .i64 x.f2.f2, .int .i64 x.f3.f0, .int .i64 x.f3.f1, .int .i64 x.f3.f2, .int .i64 x.f4.f0, .int .i64 x.f4.f1, .int .i64 x.f4.f2, .int .i64 x.f5]:=⟨[.string x.f0],[.string x.f1, .int .i64 x.f2.f0, .int .i64 x.f2.f1, .int .i64 x.f2.f2, .int .i64 x.f3.f0, .int .i64 x.f3.f1, .int .i64 x.f3.f2, .int .i64 x.f4.f0, .int .i64 x.f4.f1, .int .i64 x.f4.f2, .int .i64 x.f5],rfl,rfl,⟨[.string x.f1],[.int .i64 x.f2.f0, .int .i64 x.f2.f1, .int .i64 x.f2.f2, .int .i64 x.f3.f0, .int .i64 x.f3.f1, .int .i64 x.f3.f2, .int .i64 x.f4.f0, .int .i64 x.f4.f1, .int .i64 x.f4.f2, .int .i64 x.f5],rfl,rfl,⟨[.int .i64 x.f2.f0, .int .i64 x.f2.f1, .int .i64 x.f2.f2],[.int .i64 x.f3.f0, .int .i64 x.f3.f1, .int .i64 x.f3.f2, .int .i64 x.f4.f0, .int .i64 x.f4.f1, .int .i64 x.f4.f2, .int .i64 x.f5],rfl,(k27_mkM w base ok x.f2),⟨[.int .i64 x.f3.f0, .int .i64 x.f3.f1, .int .i64 x.f3.f2],[.int .i64 x.f4.f0, .int .i64 x.f4.f1, .int .i64 x.f4.f2, .int .i64 x.f5],rfl,(k27_mkM w base ok x.f3),⟨[.int .i64 x.f4.f0, .int .i64 x.f4.f1, .int .i64 x.f4.f2],[.int .i64 x.f5],rfl,(k27_mkM w base ok x.f4),rfl⟩⟩⟩⟩⟩
def rd_T31 (xs:List S31) (i:Int):S31:=xs.getD i.toNat z31
theorem at_T31 {w:World} {A:Option Addr} {n:Nat} {xs:List S31} (h:Kd.C k31 w A n xs) (i:Int) (h0:0≤i) (h1:i<n): ∃ad,A=some ad∧w.cell? (ad.add (i.toNat*12))=some (.string (rd_T31 xs i).f0)∧w.cell? ⟨(ad.add (i.toNat*12)).block,(ad.add (i.toNat*12)).off+1,none⟩=some (.string (rd_T31 xs i).f1)∧w.cell? ⟨(ad.add (i.toNat*12)).block,(ad.add (i.toNat*12)).off+2,none⟩=some (.int .i64 (rd_T31 xs i).f2.f0)∧w.cell? ⟨(ad.add (i.toNat*12)).block,(ad.add (i.toNat*12)).off+3,none⟩=some (.int .i64 (rd_T31 xs i).f2.f1)∧w.cell? ⟨(ad.add (i.toNat*12)).block,(ad.add (i.toNat*12)).off+4,none⟩=some (.int .i64 (rd_T31 xs i).f2.f2)∧w.cell? ⟨(ad.add (i.toNat*12)).block,(ad.add (i.toNat*12)).off+5,none⟩=some (.int .i64 (rd_T31 xs i).f3.f0)∧w.cell? ⟨(ad.add (i.toNat*12)).block,(ad.add (i.toNat*12)).off+6,none⟩=some (.int .i64 (rd_T31 xs i).f3.f1)∧w.cell? ⟨(ad.add (i.toNat*12)).block,(ad.add (i.toNat*12)).off+7,none⟩=some (.int .i64 (rd_T31 xs i).f3.f2)∧w.cell? ⟨(ad.add (i.toNat*12)).block,(ad.add (i.toNat*12)).off+8,none⟩=some (.int .i64 (rd_T31 xs i).f4.f0)∧w.cell? ⟨(ad.add (i.toNat*12)).block,(ad.add (i.toNat*12)).off+9,none⟩=some (.int .i64 (rd_T31 xs i).f4.f1)∧w.cell? ⟨(ad.add (i.toNat*12)).block,(ad.add (i.toNat*12)).off+10,none⟩=some (.int .i64 (rd_T31 xs i).f4.f2)∧w.cell? ⟨(ad.add (i.toNat*12)).block,(ad.add (i.toNat*12)).off+11,none⟩=some (.int .i64 (rd_T31 xs i).f5):=by
 obtain ⟨ad,c,e,_,hK,hc0⟩:=Kd.C_get h z31 i h0 h1
 have hc: ∀j u,c[j]?=some u→w.cell? (ad.add (i.toNat*12+j))=some u:=hc0
 obtain rfl:=k31_open hK
 exact ⟨ad,e,hc 0 _ rfl,by rw [←add_field _ _ 1 (by omega)];exact hc 1 _ rfl,by rw [←add_field _ _ 2 (by omega)];exact hc 2 _ rfl,by rw [←add_field _ _ 3 (by omega)];exact hc 3 _ rfl,by rw [←add_field _ _ 4 (by omega)];exact hc 4 _ rfl,by rw [←add_field _ _ 5 (by omega)];exact hc 5 _ rfl,by rw [←add_field _ _ 6 (by omega)];exact hc 6 _ rfl,by rw [←add_field _ _ 7 (by omega)];exact hc 7 _ rfl,by rw [←add_field _ _ 8 (by omega)];exact hc 8 _ rfl,by rw [←add_field _ _ 9 (by omega)];exact hc 9 _ rfl,by rw [←add_field _ _ 10 (by omega)];exact hc 10 _ rfl,by rw [←add_field _ _ 11 (by omega)];exact hc 11 _ rfl⟩

structure S37 where
 f0:ByteArray
 f1:Int
structure S54 where
 f0:ByteArray
 f1:ByteArray
 f2:S27
 f3:Int
structure S58 where
 f0:Int
 f1:ByteArray
 f2:ByteArray
 f3:S27
structure S180 where
 f0:ByteArray
 f1:ByteArray
 f2:S27
structure S113 where
 f0:(List S31)
 f1:Int
 f2:Int
end Go.Proofs.Ytcgefpklljclgaa.Print

namespace Go.Proofs.Ytcgefpklljclgaa.Print
open Go.RowKit Go.Proofs.YtcgefpklljclgaaW.PrintWords Go.Proofs.YtcgefpklljclgaaW.PrintLast Go.Proofs.YtcgefpklljclgaaW.PrintMore
section
variable {P:Program} {ops:Array Oper} {rest:List Oper} {o:Oper} {a:Act} {Q:Exit→Act→World→Prop} {Kc:Act→World→Prop} {W:World}
theorem put_run {gb e:Nat} {zs:Array Value} (hh:W.heap[gb]?=some (.cells zs e (0,0))) (t:TypeId) (u:Value) (off:Nat) (seg:List Value) (hu:u.cells.toList=seg) (ht:(P.info? t).map (·.size)=some seg.length) (hfit:off+seg.length≤zs.size) (h1: ∀q∈seg,q.oneCell'=true):
  ∃w' cur,(Instr.storeAt t (.pointer (some ⟨gb,off,none⟩)) u).run P W= .ok () w'∧w'.heap[gb]?=some (.cells cur e (0,0))∧cur.size=zs.size∧cur.toList=zs.toList.take off++seg++zs.toList.drop (off+seg.length)∧W.grownBy w' (some gb):=by
 have hrun:=run_store_run (P:=P) t u seg hh hu ht (o:=off) hfit h1
 obtain ⟨cur,hc,hs,hl⟩:=setCells_row seg off W zs hh hfit
 obtain ⟨s1,s2,s3,s4⟩:=setCells_same gb seg off W
 exact ⟨_,cur,hrun,hc,hs,hl,⟨s1,s2,s3,by rw [s4];exact Nat.le_refl _,fun k hk hne=>setCells_far seg off k (by rintro rfl;exact hne rfl)⟩⟩
theorem store_all {gb e:Nat} {zs:Array Value} (hh:W.heap[gb]?=some (.cells zs e (0,0))) (t:TypeId) (p x:Operand) (ho:o.op= .store t p x) (hN:o.dst=none) (hgd:o.guard=none) (u:Value) (seg:List Value)
  (hp:a.eval p= .pointer (some ⟨gb,0,none⟩)) (hx:a.eval x=u) (hu:u.cells.toList=seg) (ht:(P.info? t).map (·.size)=some seg.length) (hz:zs.size=seg.length) (h1: ∀q∈seg,q.oneCell'=true)
  (h: ∀w',w'.heap[gb]?=some (.cells seg.toArray e (0,0))→W.grownBy w' (some gb)→wpList P ops Q rest a w'):wpList P ops Q (o::rest) a W:=by
 obtain ⟨w',cur,hrun,hc,hs,hl,hg⟩:=put_run (P:=P) hh t u 0 seg hu ht (by omega) h1
 have e1:cur=seg.toArray:=by
  apply Array.ext'
  rw [hl,List.take_zero,List.nil_append,Nat.zero_add,List.drop_of_length_le (by simp [Array.length_toList];omega),List.append_nil]
 subst e1
 refine wpList_plain hgd fun K hK=> ?_
 unfold Oper.wp execOp
 simp only [ho,hp,hx,Sem.run_bind,Sem.run_pure,Result.andThen_ok,hrun]
 show K (a.put o.dst undef) _
 rw [hN]
 exact hK a _ (h _ hc hg)
theorem store_part {gb e:Nat} {zs:Array Value} (hh:W.heap[gb]?=some (.cells zs e (0,0))) (t:TypeId) (p x:Operand) (ho:o.op= .store t p x) (hN:o.dst=none) (hgd:o.guard=none) (off:Nat) (u:Value) (seg new:List Value)
  (hp:a.eval p= .pointer (some ⟨gb,off,none⟩)) (hx:a.eval x=u) (hu:u.cells.toList=seg) (ht:(P.info? t).map (·.size)=some seg.length) (hz:off+seg.length≤zs.size) (h1: ∀q∈seg,q.oneCell'=true) (hnew:zs.toList.take off++seg++zs.toList.drop (off+seg.length)=new)
  (h: ∀w',w'.heap[gb]?=some (.cells new.toArray e (0,0))→W.grownBy w' (some gb)→wpList P ops Q rest a w'):wpList P ops Q (o::rest) a W:=by
 obtain ⟨w',cur,hrun,hc,hs,hl,hg⟩:=put_run (P:=P) hh t u off seg hu ht hz h1
 have e1:cur=new.toArray:=by
  apply Array.ext'
  rw [hl,hnew]
 subst e1
 refine wpList_plain hgd fun K hK=> ?_
 unfold Oper.wp execOp
 simp only [ho,hp,hx,Sem.run_bind,Sem.run_pure,Result.andThen_ok,hrun]
 show K (a.put o.dst undef) _
 rw [hN]
 exact hK a _ (h _ hc hg)
end
theorem R_put {α:Type} {d:Kd α} {e base:Nat} {w w1:World} {v:Value} {xs:List α} (h:d.R e w base (fun _=>True) v xs) {g t:Nat} {cells:Array Value} (hb:w.heap[g]?=some (.cells cells t (0,0))) (ht: ∀q,q∈e::d.E→q≠t) (hg:w.grownBy w1 (some g)):d.R e w1 base (fun _=>True) v xs:=
 Kd.R_mono (Kd.R_grown (Kd.R_types h hb ht) hg (fun _ hk e=>hk.2 (Option.some.inj e))) (fun _ _=>trivial)
theorem below_put {a w w1:World} {base g:Nat} (h:Below base a w) (hb:base≤w.heap.size) (hg:w.grownBy w1 (some g)) (hge:base≤g):Below base a w1:=pw_below_grown h (some g) hb hg (fun k e=>by cases e;exact hge)
theorem blk_put_other {w w1:World} {g k:Nat} {ob:Obj} (h:w.heap[k]?=some ob) (hg:w.grownBy w1 (some g)) (hne:k≠g):w1.heap[k]?=some ob:=by
  rw [hg.block k (by
    rcases Nat.lt_or_ge k w.heap.size with hl|hl
    · exact hl
    rw [Array.getElem?_eq_none hl] at h;cases h) (by intro e;cases e;exact hne rfl)]
  exact h
end Go.Proofs.Ytcgefpklljclgaa.Print

namespace Go.Proofs.Ytcgefpklljclgaa.Print
open Go.RowKit Go.Proofs.YtcgefpklljclgaaW.PrintWords Go.Proofs.YtcgefpklljclgaaW.PrintLast Go.Proofs.YtcgefpklljclgaaW.PrintMore
attribute [local go_sem] max2_int min2_int max_two min_two max_three min_three max_four min_four

theorem eqA27 (d:Nat) (w:World) (x0 y0:Int) (x1 y1:Int) (x2 y2:Int):
  (Op.equalIn (d+2) 27 (.agg #[.int .i64 x0, .int .i64 x1, .int .i64 x2]) (.agg #[.int .i64 y0, .int .i64 y1, .int .i64 y2])).run Try.prog w= .ok (x0==y0 && (x1==y1 && (x2==y2))) w:=by
 refine eqA_of Try.underlying27 (by kernel_rfl) ?_
 refine eqf_cons (by rfl) (by go_simp;rfl) (by go_simp;rfl) (by go_simp) ?_
 refine eqf_cons (by rfl) (by go_simp;rfl) (by go_simp;rfl) (by go_simp) ?_
 exact eqf_last (by rfl) (by go_simp;rfl) (by go_simp;rfl) (by go_simp)
theorem eqA31 (d:Nat) (w:World) (x0 y0:ByteArray) (x1 y1:ByteArray) (x2 y2:Int) (x3 y3:Int) (x4 y4:Int) (x5 y5:Int) (x6 y6:Int) (x7 y7:Int) (x8 y8:Int) (x9 y9:Int) (x10 y10:Int) (x11 y11:Int):
  (Op.equalIn (d+3) 31 (.agg #[.string x0, .string x1, .int .i64 x2, .int .i64 x3, .int .i64 x4, .int .i64 x5, .int .i64 x6, .int .i64 x7, .int .i64 x8, .int .i64 x9, .int .i64 x10, .int .i64 x11]) (.agg #[.string y0, .string y1, .int .i64 y2, .int .i64 y3, .int .i64 y4, .int .i64 y5, .int .i64 y6, .int .i64 y7, .int .i64 y8, .int .i64 y9, .int .i64 y10, .int .i64 y11])).run Try.prog w= .ok (x0.toList==y0.toList && (x1.toList==y1.toList && ((x2==y2 && (x3==y3 && (x4==y4))) && ((x5==y5 && (x6==y6 && (x7==y7))) && ((x8==y8 && (x9==y9 && (x10==y10))) && (x11==y11)))))) w:=by
 refine eqA_of Try.underlying31 (by kernel_rfl) ?_
 refine eqf_cons (by rfl) (by go_simp;rfl) (by go_simp;rfl) (by go_simp) ?_
 refine eqf_cons (by rfl) (by go_simp;rfl) (by go_simp;rfl) (by go_simp) ?_
 refine eqf_cons (by rfl) (by go_simp) (by go_simp) (eqA27 (d+0) w _ _ _ _ _ _) ?_
 refine eqf_cons (by rfl) (by go_simp) (by go_simp) (eqA27 (d+0) w _ _ _ _ _ _) ?_
 refine eqf_cons (by rfl) (by go_simp) (by go_simp) (eqA27 (d+0) w _ _ _ _ _ _) ?_
 exact eqf_last (by rfl) (by go_simp;rfl) (by go_simp;rfl) (by go_simp)
def r10_Find.l0:Nat→List (S31)→ByteArray→Int→Option (Int)
 |0,_,_,_=>none
 |k+1,x0,x1,x5=>if x5<(x0.length:Int) then (if 0≤x5 then (if ((rd_T31 x0 x5).f0).toList=x1.toList then (some x5) else (r10_Find.l0 k x0 x1 (wrap64 (x5+1)))) else (none)) else (some (-1))
def r10_Find.f (k:Nat) (l0:List (S31)) (a1:ByteArray):Option (Int):=r10_Find.l0 k l0 a1 0
theorem r10_Find.mono_l: ∀k,(∀y0 y1 y2,LeO (r10_Find.l0 k y0 y1 y2) (r10_Find.l0 (k+1) y0 y1 y2))
 |0=>fun _ _ _ r h=>by simp [r10_Find.l0] at h
 |k+1=>by
  have ih0:=r10_Find.mono_l k
  intro y0 y1 y2
  unfold r10_Find.l0
  repeat' first
  |(with_reducible exact ih0 _ _ _)
  |(with_reducible exact LeO.refl _)
  |(with_reducible exact LeO.none _)
  |(with_reducible refine LeO.ite ?_ ?_)
  |(with_reducible refine LeO.bind ?_ (fun _=> ?_))
  |exact ih0 _ _ _
  |exact LeO.none _
  |refine LeO.ite ?_ ?_
  |refine LeO.bind ?_ (fun _=> ?_)
theorem r10_Find.mono: ∀a0 a1 k,LeO (r10_Find.f k a0 a1) (r10_Find.f (k+1) a0 a1):=by
 intro a0 a1 k
 have ih0:=r10_Find.mono_l k
 unfold r10_Find.f
 repeat' first
  |(with_reducible exact ih0 _ _ _)
  |(with_reducible exact LeO.refl _)
  |(with_reducible exact LeO.none _)
  |(with_reducible refine LeO.ite ?_ ?_)
  |(with_reducible refine LeO.bind ?_ (fun _=> ?_))
  |exact ih0 _ _ _
  |exact LeO.none _
  |refine LeO.ite ?_ ?_
  |refine LeO.bind ?_ (fun _=> ?_)
set_option maxHeartbeats 8000000 in
set_option maxRecDepth 100000 in
theorem r10_Find.calls (k:Nat) (A0:Option Addr) (c0:Nat) (l0:List (S31)) (a1:ByteArray) (r:Int) (w:World) (hr0:Kd.C k31 w A0 l0.length l0) (hc0:l0.length≤c0) (h:r10_Find.f k l0 a1=some r):
  Calls Try.prog 50 #[.slice A0 l0.length c0, .string a1] w fun e w'=>e= .returned (.int .i64 r)∧Drawn0 w w':=by
 have HR0:=Aside0.mk hr0
 have HC0:=Aside0.mk hc0
 clear hr0 hc0
 have H:(r10_Find.l0 k l0 a1 0)=some r:=h
 clear h
 have H':=Aside0.mk H
 clear H
 go_enter Try.func50,Try.ntmps50
 go_wp2
 go_loopg [5] k (fun kq v5 w'=> ∃(x5_1:Int),v5= .int .i64 x5_1∧Aside0 (r10_Find.l0 kq l0 a1 x5_1=some r)∧Aside0 (kq≤k)∧Drawn0 w w')
 case atStart=>exact ⟨(0),(by first|rfl|(simp;done)|(simp [*];done)),H',⟨Nat.le_refl _⟩,by repeat (first|exact Drawn0.refl _|apply Drawn0.step)⟩
 case round=>
  clear H'
  try clear p2
  obtain ⟨x5_1,rfl,HA,HK1,⟨m1,rfl⟩⟩:=hrel
  cases gk with
  |zero=>exact absurd HA.out (by simp [r10_Find.l0])
  |succ k1=>
   have H:=HA.out
   clear HA
   simp only [r10_Find.l0] at H
   by_cases c3:x5_1<(l0.length:Int)
   rotate_left
   ·rw [if_neg c3] at H
    have c3b0:decide (x5_1<(l0.length:Int))=false:=decide_eq_false c3
    clear c3
    obtain rfl:=Option.some.inj H
    go_wp2
    go_ret
    exact ⟨by first|rfl|(simp;done)|(simp [*];done),by repeat (first|exact Drawn0.refl _|apply Drawn0.step)⟩

   rw [if_pos c3] at H
   have c3b0:decide (x5_1<(l0.length:Int))=true:=decide_eq_true c3
   clear c3
   by_cases c4:0≤x5_1
   rotate_left
   ·rw [if_neg c4] at H
    exact absurd H (by simp)
   rw [if_pos c4] at H
   have c4b0:decide (0≤x5_1)=true:=decide_eq_true c4
   clear c4
   by_cases c5:((rd_T31 l0 x5_1).f0).toList=a1.toList
   ·rw [if_pos c5] at H
    have c5b0:(((rd_T31 l0 x5_1).f0).toList==a1.toList)=true:=beq_iff_eq.mpr c5
    have c5b1:(((rd_T31 l0 x5_1).f0).toList !=a1.toList)=false:=bne_eq_false_iff_eq.mpr c5
    clear c5
    obtain rfl:=Option.some.inj H
    have p1:0≤(x5_1:Int):=of_decide_eq_true zq_
    have q1:x5_1<(l0.length:Int):=of_decide_eq_true zq_
    obtain ⟨ad1,e1,hx1_0,hx1_1,hx1_2,hx1_3,hx1_4,hx1_5,hx1_6,hx1_7,hx1_8,hx1_9,hx1_10,hx1_11⟩:=at_T31 HR0.out x5_1 p1 q1
    cases e1
    replace p1:=eq_true p1
    replace q1:=eq_true q1
    go_wp2
    go_ret
    exact ⟨by first|rfl|(simp;done)|(simp [*];done),by repeat (first|exact Drawn0.refl _|apply Drawn0.step)⟩
   rw [if_neg c5] at H
   have c5b0:(((rd_T31 l0 x5_1).f0).toList==a1.toList)=false:=beq_eq_false_iff_ne.mpr c5
   have c5b1:(((rd_T31 l0 x5_1).f0).toList !=a1.toList)=true:=bne_iff_ne.mpr c5
   have H':=Aside0.mk H
   clear H
   have p1:0≤(x5_1:Int):=of_decide_eq_true zq_
   have q1:x5_1<(l0.length:Int):=of_decide_eq_true zq_
   obtain ⟨ad1,e1,hx1_0,hx1_1,hx1_2,hx1_3,hx1_4,hx1_5,hx1_6,hx1_7,hx1_8,hx1_9,hx1_10,hx1_11⟩:=at_T31 HR0.out x5_1 p1 q1
   cases e1
   replace p1:=eq_true p1
   replace q1:=eq_true q1
   go_wp2
   go_roundg k1
   case measure=>have:=HK1.out;omega
   case rel=>exact ⟨(wrap64 (x5_1+1)),(by first|rfl|(simp;done)|(simp [*];done)),H',⟨by have:=HK1.out;omega⟩,by repeat (first|exact Drawn0.refl _|apply Drawn0.step)⟩
def vecByF (op:Int→Int→Int):List S27→Int→Int→Int→Int×Int×Int
 |[],a,b,d=>(a,b,d)
 |v::l,a,b,d=>vecByF op l (op a v.f0) (op b v.f1) (op d v.f2)
theorem vecByF_snoc (op:Int→Int→Int) (v:S27): ∀(l:List S27) (a b d:Int),vecByF op (l++ [v]) a b d=(op (vecByF op l a b d).1 v.f0,op (vecByF op l a b d).2.1 v.f1,op (vecByF op l a b d).2.2 v.f2)
 |[],_,_,_=>rfl
 |_::l,_,_,_=>vecByF_snoc op v l _ _ _
theorem vecByF_take (op:Int→Int→Int) (l:List S27) (a b d:Int) (i:Nat) (h:i<l.length):vecByF op (l.take (i+1)) a b d=(op (vecByF op (l.take i) a b d).1 (rd_T27 l i).f0,op (vecByF op (l.take i) a b d).2.1 (rd_T27 l i).f1,op (vecByF op (l.take i) a b d).2.2 (rd_T27 l i).f2):=by
 have e:rd_T27 l i=l[i]:=by simp [rd_T27,h]
 rw [List.take_succ_eq_append_getElem h,vecByF_snoc,e]
set_option maxHeartbeats 1000000 in
set_option maxRecDepth 100000 in
theorem vecBy_calls (g:Nat) (op:Int→Int→Int) (eg: ∀args w,(callFunc g args).run Try.prog w= .ok (.enter g args) w) (hop: ∀x y W,Calls Try.prog g #[.int .i64 x, .int .i64 y] W fun e w'=>e= .returned (.int .i64 (op x y))∧w'=W)
    (A:Option Addr) (c:Nat) (l:List S27) (a b d:Int) (w:World) (hr0:Kd.C k27 w A l.length l) (hc0:l.length≤c) (hm:l.length≤maxLen):
    Calls Try.prog 162 #[.func (.func g) #[] #[], .agg #[.int .i64 a, .int .i64 b, .int .i64 d], .slice A l.length c] w fun e w'=>e= .returned (.agg #[.int .i64 (vecByF op l a b d).1, .int .i64 (vecByF op l a b d).2.1, .int .i64 (vecByF op l a b d).2.2])∧Below w.heap.size w w':=by
  have hu27:=Try.underlying27
  have HR0:=Aside0.mk hr0
  have HOP:=Aside0.mk hop
  have HEG:=Aside0.mk eg
  have HBT:=am_ (vecByF_take op l a b d)
  clear hr0 hop eg
  unfold maxLen at hm
  go_enter Try.func162,Try.ntmps162
  go_wp2
  go_loopg [11] l.length (fun kq s11 wr=> ∃i:Nat,i≤l.length∧l.length - i≤kq∧s11= .int .i64 i∧Aside0 (Below w.heap.size w wr)∧Aside0 (wr.heap[w.heap.size]?=some (.cells #[.int .i64 (vecByF op (l.take i) a b d).1, .int .i64 (vecByF op (l.take i) a b d).2.1, .int .i64 (vecByF op (l.take i) a b d).2.2] 27 (0,0)))∧Aside0 (wr.heap[w.heap.size+1]?=some (.cells #[.int .i64 0, .int .i64 0, .int .i64 0] 27 (0,0))))
  case atStart=>
    exact ⟨0,by omega,by omega,rfl,⟨below_alloc (below_alloc (Below.refl _ _) _) _⟩,⟨blk_alloc (blk_new _ _) _⟩,⟨by have:=blk_new (w.alloc (.cells #[.int .i64 a, .int .i64 b, .int .i64 d] 27)) (.cells #[.int .i64 0, .int .i64 0, .int .i64 0] 27);simpa using this⟩⟩
  case round=>
    obtain ⟨i,hi,hg,rfl,HB,HF,HZ⟩:=hrel
    generalize hq:vecByF op (l.take i) a b d=q at HF
    have HQ:=Aside0.mk hq
    clear hq
    by_cases hlt:i<l.length
    rotate_left
    · obtain rfl : i = l.length := by omega
      have hq:q=vecByF op l a b d:=HQ.out.symm.trans (by rw [List.take_length])
      subst hq
      have HQ':=HQ
      clear HQ HBT
      have f0:=(blk_cell HF.out 0).trans rfl
      have f1:=(blk_cell HF.out 1).trans rfl
      have f2:=(blk_cell HF.out 2).trans rfl
      have g0:=(blk_cell HZ.out 0).trans rfl
      have g1:=(blk_cell HZ.out 1).trans rfl
      have g2:=(blk_cell HZ.out 2).trans rfl
      have z0:=blk_frozen HZ.out 0
      have z1:=blk_frozen HZ.out 1
      have z2:=blk_frozen HZ.out 2
      have hs1:w.heap.size+1<wr.heap.size:=blk_lt HZ.out
      go_wp2
      refine bodyPost_ret (results_cell_row rfl _ _ (w.heap.size+1) 27 #[.int .i64 (vecByF op l a b d).1, .int .i64 (vecByF op l a b d).2.1, .int .i64 (vecByF op l a b d).2.2] (0,0) _ rfl (blk_put (blk_put (blk_put HZ.out 0 _ rfl) 1 _ rfl) 2 _ rfl) Try.underlying27 rfl (by kernel_rfl)) rfl ?_
      exact ⟨rfl,below_set (below_set (below_set HB.out (Nat.le_succ _)) (Nat.le_succ _)) (Nat.le_succ _)⟩


    have hltz:(i:Int)<(l.length:Int):=by omega
    obtain ⟨ad,e1,h0,h1,h2⟩:=at_T27 HR0.out (i:Int) (by omega) (by omega)
    cases e1
    simp only [Int.toNat_natCast] at h0 h1 h2
    replace h0:=zx_ HB h0
    replace h1:=zx_ HB h1
    replace h2:=zx_ HB h2
    have hsz:w.heap.size+1<wr.heap.size:=blk_lt HZ.out
    go_wp2
    obtain ⟨W1,hW1⟩: ∃W1,W1=(wr.alloc (.cells #[.int .i64 (rd_T27 l i).f0, .int .i64 (rd_T27 l i).f1, .int .i64 (rd_T27 l i).f2] 27)).drew:=⟨_,rfl⟩
    have hF1:W1.heap[w.heap.size]?=some (.cells #[.int .i64 q.1, .int .i64 q.2.1, .int .i64 q.2.2] 27 (0,0)):=by rw [hW1];exact blk_alloc HF.out _
    have hZ1:W1.heap[w.heap.size+1]?=some (.cells #[.int .i64 0, .int .i64 0, .int .i64 0] 27 (0,0)):=by rw [hW1];exact blk_alloc HZ.out _
    have hV1:W1.heap[wr.heap.size]?=some (.cells #[.int .i64 (rd_T27 l i).f0, .int .i64 (rd_T27 l i).f1, .int .i64 (rd_T27 l i).f2] 27 (0,0)):=by rw [hW1];exact blk_new _ _
    have hB1:Below w.heap.size w W1:=by rw [hW1];exact below_drew (below_alloc HB.out _)
    refine wp_region_still_tail 19 (by kernel_rfl) (by kernel_rfl) ?_
    change wpStill _ _ (World.drew _) _ _ _
    rw [←hW1]
    simp only [List.take_succ_cons,List.take_zero,List.drop_succ_cons,List.drop_zero]
    have HV1:=Aside0.mk hV1
    have HF1:=Aside0.mk hF1
    have HZ1:=Aside0.mk hZ1
    have HB1:=Aside0.mk hB1
    have f0:=(blk_cell hF1 0).trans rfl
    have f1:=(blk_cell hF1 1).trans rfl
    have f2:=(blk_cell hF1 2).trans rfl
    have g0:=(blk_cell hV1 0).trans rfl
    have g1:=(blk_cell hV1 1).trans rfl
    have g2:=(blk_cell hV1 2).trans rfl
    have HW1:=Aside0.mk hW1
    clear hW1 hF1 hZ1 hV1 hB1
    have eg:=HEG.out
    repeat still_step
    still_call (HOP.out _ _ _)
    repeat still_step
    still_call (HOP.out _ _ _)
    repeat still_step
    still_call (HOP.out _ _ _)
    repeat still_step
    refine wpStill_nil ?_
    change wpList _ _ _ _ _ (World.drew _)
    rw [←HW1.out]
    have z0:=blk_frozen HF1.out 0
    have z1:=blk_frozen HF1.out 1
    have z2:=blk_frozen HF1.out 2
    have hs1:w.heap.size<W1.heap.size:=blk_lt HF1.out
    go_wp2
    have hb:=HBT.out i hlt
    rw [HQ.out] at hb
    have HH:=Aside0.mk hb
    clear hb
    go_roundg (l.length - (i+1))
    case measure=>omega
    case rel=>
      refine ⟨i+1,by omega,by omega,by go_num,⟨below_set (below_set (below_set HB1.out (Nat.le_refl _)) (Nat.le_refl _)) (Nat.le_refl _)⟩,⟨?_⟩,⟨blk_far (blk_far (blk_far HZ1.out (by simp) _) (by simp) _) (by simp) _⟩⟩
      rw [HH.out]
      exact blk_put (blk_put (blk_put HF1.out 0 _ rfl) 1 _ rfl) 2 _ rfl
theorem vecAdd1_calls (x y:Int) (W:World):Calls Try.prog 163 #[.int .i64 x, .int .i64 y] W fun e w'=>e= .returned (.int .i64 (wrap64 (x+y)))∧w'=W:=by
 go_enter Try.func163,Try.ntmps163
 go_wp2
 go_ret
 exact ⟨rfl,rfl⟩
def vec_Add.f (l0:List (S27)):Option (Int×Int×Int):=some (vecByF (fun x y=>wrap64 (x+y)) l0 0 0 0)
set_option maxHeartbeats 1000000 in
set_option maxRecDepth 100000 in
theorem vec_Add.calls (A0:Option Addr) (c0:Nat) (l0:List (S27)) (r1:Int) (r2:Int) (r3:Int) (w:World) (hr0:Kd.C k27 w A0 l0.length l0) (hc0:l0.length≤c0) (h:vec_Add.f l0=some (r1,r2,r3)):
  Calls Try.prog 119 #[.slice A0 l0.length c0] w fun e w'=>e= .returned (.agg #[.int .i64 r1, .int .i64 r2, .int .i64 r3])∧Below w.heap.size w w':=by
 have hu27:=Try.underlying27
 have hm:l0.length≤maxLen:=hr0.2.1
 have HC:=am_ (vecBy_calls 163 (fun x y=>wrap64 (x+y)) (enters_of Try.func163 (by kernel_rfl) rfl) vecAdd1_calls A0 c0 l0 0 0 0 (w.alloc (.cells #[.int .i64 0, .int .i64 0, .int .i64 0] 27)) (Kd.C_below hr0 (below_alloc (Below.refl _ _) _)) hc0 hm)
 have HH:=Aside0.mk h
 clear hr0 h
 go_enter Try.func119,Try.ntmps119
 go_wp2_with fail
 refine HC.out.mono ?_
 rintro e w1 ⟨rfl,hb⟩
 have h:=Option.some.inj (show some (vecByF (fun x y=>wrap64 (x+y)) l0 0 0 0)=some (r1,r2,r3) from HH.out)
 rw [h]
 have hZ:=blk_below (blk_new w (.cells #[.int .i64 0, .int .i64 0, .int .i64 0] 27)) hb
 have HB:=Aside0.mk hb
 have HZ:=Aside0.mk hZ
 clear h hb hZ
 have g0:=(blk_cell HZ.out 0).trans rfl
 have g1:=(blk_cell HZ.out 1).trans rfl
 have g2:=(blk_cell HZ.out 2).trans rfl
 have z0:=blk_frozen HZ.out 0
 have z1:=blk_frozen HZ.out 1
 have z2:=blk_frozen HZ.out 2
 have hs1:w.heap.size<w1.heap.size:=blk_lt HZ.out
 go_wp2
 refine bodyPost_ret (results_cell_row rfl _ _ w.heap.size 27 #[.int .i64 r1, .int .i64 r2, .int .i64 r3] (0,0) _ rfl (blk_put (blk_put (blk_put HZ.out 0 _ rfl) 1 _ rfl) 2 _ rfl) Try.underlying27 rfl (by kernel_rfl)) rfl ?_
 exact ⟨rfl,below_set (below_set (below_set (below_step (below_alloc (Below.refl _ _) _) HB.out) (Nat.le_refl _)) (Nat.le_refl _)) (Nat.le_refl _)⟩


theorem vecSub1_calls (x y:Int) (W:World):Calls Try.prog 166 #[.int .i64 x, .int .i64 y] W fun e w'=>e= .returned (.int .i64 (wrap64 (x - y)))∧w'=W:=by
 go_enter Try.func166,Try.ntmps166
 go_wp2
 go_ret
 exact ⟨rfl,rfl⟩
theorem vec_one_row {W:World} {g:Nat} (x:S27) (h:W.heap[g]?=some (.cells #[.int .i64 x.f0, .int .i64 x.f1, .int .i64 x.f2] 27 (0,0))):Kd.C k27 W (some ⟨g,0,none⟩) [x].length [x]:=by
 refine ⟨rfl,by simp,fun _=>⟨_,rfl,fun j p hj=> ?_⟩⟩
 obtain ⟨rfl,rfl⟩:j=0∧x=p:=by
  cases j with
  |zero=>exact ⟨rfl,by simpa using hj⟩
  |succ j=>simp at hj
 refine ⟨_,rfl,k27_mk W x,fun i u hi=> ?_⟩
 rw [Addr.add_lit,blk_cell h,←hi]
 simp
theorem vec_two_row {W:World} {g:Nat} (x y:S27) (h:W.heap[g]?=some (.cells #[.int .i64 x.f0, .int .i64 x.f1, .int .i64 x.f2, .int .i64 y.f0, .int .i64 y.f1, .int .i64 y.f2] 27 (0,0))):Kd.C k27 W (some ⟨g,0,none⟩) [x,y].length [x,y]:=by
  refine ⟨rfl,by simp,fun _=>⟨_,rfl,fun j p hj=> ?_⟩⟩
  match j,hj with
  | 0, hj =>
    obtain rfl:x=p:=by simpa using hj
    refine ⟨_,rfl,k27_mk W x,fun i u hi=> ?_⟩
    rw [Addr.add_lit,blk_cell h]
    match i,hi with
    |0,hi=>exact hi
    |1,hi=>exact hi
    |2,hi=>exact hi
    |i+3,hi=>simp at hi
  | 1, hj =>
    obtain rfl:y=p:=by simpa using hj
    refine ⟨_,rfl,k27_mk W y,fun i u hi=> ?_⟩
    rw [Addr.add_lit,blk_cell h]
    match i,hi with
    |0,hi=>exact hi
    |1,hi=>exact hi
    |2,hi=>exact hi
    |i+3,hi=>simp at hi
  |j+2,hj=>simp at hj
def vec_Sub.f (a0_0:Int) (a0_1:Int) (a0_2:Int) (a1_0:Int) (a1_1:Int) (a1_2:Int):Option (Int×Int×Int):=some (wrap64 (a0_0 - a1_0),wrap64 (a0_1 - a1_1),wrap64 (a0_2 - a1_2))
set_option maxHeartbeats 1000000 in
set_option maxRecDepth 100000 in
theorem vec_Sub.calls (a0_0:Int) (a0_1:Int) (a0_2:Int) (a1_0:Int) (a1_1:Int) (a1_2:Int) (r1:Int) (r2:Int) (r3:Int) (w:World) (h:vec_Sub.f a0_0 a0_1 a0_2 a1_0 a1_1 a1_2=some (r1,r2,r3)):
  Calls Try.prog 134 #[.agg #[.int .i64 a0_0, .int .i64 a0_1, .int .i64 a0_2], .agg #[.int .i64 a1_0, .int .i64 a1_1, .int .i64 a1_2]] w fun e w'=>e= .returned (.agg #[.int .i64 r1, .int .i64 r2, .int .i64 r3])∧Below w.heap.size w w':=by
 have hu27:=Try.underlying27
 have HC:=am_ (fun (W:World) (g:Nat) (hb:W.heap[g]?=some (.cells #[.int .i64 a1_0, .int .i64 a1_1, .int .i64 a1_2] 27 (0,0)))=>vecBy_calls 166 (fun x y=>wrap64 (x - y)) (enters_of Try.func166 (by kernel_rfl) rfl) vecSub1_calls (some ⟨g,0,none⟩) 1 [⟨a1_0,a1_1,a1_2⟩] a0_0 a0_1 a0_2 W (vec_one_row ⟨a1_0,a1_1,a1_2⟩ hb) (Nat.le_refl _) (by simp [maxLen]))
 have HH:=Aside0.mk h
 clear h
 go_enter Try.func134,Try.ntmps134
 go_wp2_with fail
 obtain ⟨w3,hw3⟩: ∃w3,w3=((w.alloc (.cells #[.int .i64 a0_0, .int .i64 a0_1, .int .i64 a0_2] 27)).alloc (.cells #[.int .i64 a1_0, .int .i64 a1_1, .int .i64 a1_2] 27)).alloc (.cells #[.int .i64 0, .int .i64 0, .int .i64 0] 27):=⟨_,rfl⟩
 have hs3:w3.heap.size=w.heap.size+1+1+1:=by rw [hw3];simp
 have hz3:w3.heap[w.heap.size+1+1]?=some (.cells #[.int .i64 0, .int .i64 0, .int .i64 0] 27 (0,0)):=by rw [hw3];have:=blk_new ((w.alloc (.cells #[.int .i64 a0_0, .int .i64 a0_1, .int .i64 a0_2] 27)).alloc (.cells #[.int .i64 a1_0, .int .i64 a1_1, .int .i64 a1_2] 27)) (.cells #[.int .i64 0, .int .i64 0, .int .i64 0] 27);simpa using this
 have hb3:Below w.heap.size w w3:=by rw [hw3];exact below_alloc (below_alloc (below_alloc (Below.refl _ _) _) _) _
 rw [←hw3,←hs3]
 clear hw3
 have hn:=blk_new w3 (.cells #[.int .i64 a1_0, .int .i64 a1_1, .int .i64 a1_2] 27)
 refine (HC.out _ _ hn).mono ?_
 rintro e w1 ⟨rfl,hb⟩
 have h:=Option.some.inj (show some (vecByF (fun x y=>wrap64 (x - y)) [⟨a1_0,a1_1,a1_2⟩] a0_0 a0_1 a0_2)=some (r1,r2,r3) from HH.out)
 rw [h]
 have HB:=am_ (below_step (below_step hb3 (below_alloc (Below.refl _ _) _)) hb)
 have HZ:=am_ (blk_below (blk_alloc hz3 (.cells #[.int .i64 a1_0, .int .i64 a1_1, .int .i64 a1_2] 27)) hb)
 clear h hb hn hb3 hz3 HC
 have HS3:=Aside0.mk hs3
 clear hs3
 have g0:=(blk_cell HZ.out 0).trans rfl
 have g1:=(blk_cell HZ.out 1).trans rfl
 have g2:=(blk_cell HZ.out 2).trans rfl
 have z0:=blk_frozen HZ.out 0
 have z1:=blk_frozen HZ.out 1
 have z2:=blk_frozen HZ.out 2
 have hs1:w.heap.size+1+1<w1.heap.size:=blk_lt HZ.out
 go_wp2
 refine bodyPost_ret (results_cell_row rfl _ _ (w.heap.size+1+1) 27 #[.int .i64 r1, .int .i64 r2, .int .i64 r3] (0,0) _ rfl (blk_put (blk_put (blk_put HZ.out 0 _ rfl) 1 _ rfl) 2 _ rfl) Try.underlying27 rfl (by kernel_rfl)) rfl ?_
 have hle:w.heap.size≤w.heap.size+1+1:=by omega
 exact ⟨rfl,below_set (below_set (below_set HB.out hle) hle) hle⟩


def fidx {α:Type} (p:α→Bool):List α→Int→Int
 |[],_=> -1
 |x::l,i=>if p x=true then i else fidx p l (i+1)
theorem fidx_drop {α:Type} (p:α→Bool) (z:α) (l:List α) (i:Nat) (h:i<l.length):fidx p (l.drop i) i=if p (l.getD i z)=true then (i:Int) else fidx p (l.drop (i+1)) ((i+1:Nat):Int):=by
 rw [List.drop_eq_getElem_cons h,List.getD_eq_getElem?_getD,List.getElem?_eq_getElem h]
 rfl
def itemCells (x:S31):Array Value:=#[.string x.f0, .string x.f1, .int .i64 x.f2.f0, .int .i64 x.f2.f1, .int .i64 x.f2.f2, .int .i64 x.f3.f0, .int .i64 x.f3.f1, .int .i64 x.f3.f2, .int .i64 x.f4.f0, .int .i64 x.f4.f1, .int .i64 x.f4.f2, .int .i64 x.f5]
set_option maxHeartbeats 1000000 in
set_option maxRecDepth 100000 in
theorem idxItem_calls (g:Nat) (lb:Array Value) (p:S31→Bool) (eg: ∀args w,(callFunc g args).run Try.prog w= .ok (.enter g args) w) (w:World)
    (hp: ∀W x,Below w.heap.size w W→Calls Try.prog g (#[.agg (itemCells x)]++lb) W fun e w'=>e= .returned (.bool (p x))∧Below W.heap.size W w')
    (A:Option Addr) (c:Nat) (l:List S31) (hr0:Kd.C k31 w A l.length l) (hc0:l.length≤c):
    Calls Try.prog 127 #[.slice A l.length c, .func (.func g) #[] lb] w fun e w'=>e= .returned (.int .i64 (fidx p l 0))∧Below w.heap.size w w':=by
  have hu31:=Try.underlying31
  have HR0:=Aside0.mk hr0
  have HP:=Aside0.mk hp
  have HEG:=Aside0.mk eg
  have hm:l.length≤9223372036854775807:=hr0.2.1
  clear hr0 hp eg
  go_enter Try.func127,Try.ntmps127
  go_wp2
  go_loopg [5,8] l.length (fun kq s5 s8 wr=> ∃i:Nat,i≤l.length∧l.length - i≤kq∧s8= .int .i64 i∧Aside0 (Below w.heap.size w wr)∧Aside0 (fidx p l 0=fidx p (l.drop i) i))
  case atStart=>exact ⟨0,by omega,by omega,rfl,⟨Below.refl _ _⟩,⟨rfl⟩⟩
  case round=>
    obtain ⟨i,hi,hg,rfl,HB,HF⟩:=hrel
    by_cases hlt:i<l.length
    rotate_left
    · obtain rfl : i = l.length := by omega
      go_wp2
      go_ret
      refine ⟨?_,HB.out⟩
      rw [HF.out,List.drop_length]
      rfl


    have hltz:(i:Int)<(l.length:Int):=by omega
    obtain ⟨ad,e1,h0,h1,h2,h3,h4,h5,h6,h7,h8,h9,h10,h11⟩:=at_T31 HR0.out (i:Int) (by omega) (by omega)
    cases e1
    simp only [Int.toNat_natCast] at h0 h1 h2 h3 h4 h5 h6 h7 h8 h9 h10 h11
    replace h0:=zx_ HB h0
    replace h1:=zx_ HB h1
    replace h2:=zx_ HB h2
    replace h3:=zx_ HB h3
    replace h4:=zx_ HB h4
    replace h5:=zx_ HB h5
    replace h6:=zx_ HB h6
    replace h7:=zx_ HB h7
    replace h8:=zx_ HB h8
    replace h9:=zx_ HB h9
    replace h10:=zx_ HB h10
    replace h11:=zx_ HB h11
    have hd:Aside0 _:=⟨fidx_drop p z31 l i hlt⟩
    have HC:=am_ (HP.out wr (rd_T31 l i) HB.out)
    generalize hy:rd_T31 l i=y at h0 h1 h2 h3 h4 h5 h6 h7 h8 h9 h10 h11 HC
    have hq:p (l.getD i z31)=p y:=by rw [←hy];simp [rd_T31]
    have HQ:=Aside0.mk hq
    clear hy hq
    have eg:=HEG.out
    cases hb:p y with
    | true =>
      rw [hb] at HC HQ
      clear hb
      go_wp2_with (go_at_fn g;refine HC.out.mono ?_;rintro e w' ⟨rfl,hb'⟩;have HB':=am_ (below_step HB.out hb');clear hb')
      go_ret
      refine ⟨?_,HB'.out⟩
      rw [HF.out,hd.out,HQ.out]
      rfl
    | false =>
      rw [hb] at HC HQ
      clear hb
      go_wp2_with (go_at_fn g;refine HC.out.mono ?_;rintro e w' ⟨rfl,hb'⟩;have HB':=am_ (below_step HB.out hb');clear hb')
      go_roundg (l.length - (i+1))
      case measure=>omega
      case rel=>exact ⟨i+1,by omega,by omega,by go_num,HB',⟨by rw [HF.out,hd.out,HQ.out];rfl⟩⟩
set_option maxHeartbeats 1000000 in
set_option maxRecDepth 100000 in
theorem treeFind1_calls (W:World) (b:Nat) (nm:ByteArray) (hb:W.heap[b]?=some (.cells #[.string nm] 9 (0,0))) (x:S31):
  Calls Try.prog 128 #[.agg (itemCells x), .pointer (some ⟨b,0,none⟩)] W fun e w'=>e= .returned (.bool (x.f0.toList==nm.toList))∧Below W.heap.size W w':=by
 unfold itemCells
 have hu31:=Try.underlying31
 have h0:=(blk_cell hb 0).trans rfl
 have hl:b<W.heap.size:=blk_lt hb
 clear hb
 go_enter Try.func128,Try.ntmps128
 go_wp2
 go_ret
 exact ⟨rfl,by repeat (first|(with_reducible first|exact Below.refl _ _|apply below_alloc|apply pw_below_drewN|apply below_drew1))⟩
def tree_Find.f (l0:List (S31)) (a1:ByteArray):Option Int:=some (fidx (fun x=>x.f0.toList==a1.toList) l0 0)
set_option maxHeartbeats 1000000 in
set_option maxRecDepth 100000 in
theorem tree_Find.calls (A0:Option Addr) (c0:Nat) (l0:List (S31)) (a1:ByteArray) (r:Int) (w:World) (hr0:Kd.C k31 w A0 l0.length l0) (hc0:l0.length≤c0) (h:tree_Find.f l0 a1=some r):
  Calls Try.prog 71 #[.slice A0 l0.length c0, .string a1] w fun e w'=>e= .returned (.int .i64 r)∧Below w.heap.size w w':=by
 have hr:fidx (fun x=>x.f0.toList==a1.toList) l0 0=r:=Option.some.inj h
 obtain ⟨W1,hW1⟩: ∃W1,W1=w.alloc (.cells #[.string a1] 9):=⟨_,rfl⟩
 have hn:W1.heap[w.heap.size]?=some (.cells #[.string a1] 9 (0,0)):=by rw [hW1];exact blk_new _ _
 have hB:Below w.heap.size w W1:=by rw [hW1];exact below_alloc (Below.refl _ _) _
 have HC:=am_ (idxItem_calls 128 #[.pointer (some ⟨w.heap.size,0,none⟩)] (fun x=>x.f0.toList==a1.toList) (enters_of Try.func128 (by kernel_rfl) rfl) W1 (fun W x hb=>treeFind1_calls W w.heap.size a1 (blk_below hn hb) x) A0 c0 l0 (Kd.C_below hr0 hB) hc0)
 rw [hr] at HC
 have HW:=Aside0.mk hW1
 have HB:=Aside0.mk hB
 clear hr0 hr hW1 hn hB h
 go_enter Try.func71,Try.ntmps71
 go_wp2_with fail
 rw [←HW.out]
 refine HC.out.mono ?_
 rintro e w' ⟨rfl,hb⟩
 have HB':=am_ (below_step HB.out hb)
 clear hb
 go_wp2
 go_ret
 exact ⟨rfl,HB'.out⟩


def tree_Up.l0:Nat→List (S31)→List ByteArray→Int→Option (List ByteArray)
 |0,_,_,_=>none
 |k+1,x0,x5,x6=>if x6≥0 then (if (x5.length:Int)≤(x0.length:Int) then (if 0≤x6 then (if x6<(x0.length:Int) then (if x5.length<8796093022208 then ((tree_Find.f x0 ((rd_T31 x0 x6).f1)).bind fun t7=>(tree_Up.l0 k x0 (x5++ [(rd_T31 x0 x6).f0]) t7)) else (none)) else (none)) else (none)) else (some x5)) else (some x5)
def tree_Up.f (k:Nat) (l0:List (S31)) (a1:ByteArray):Option (List ByteArray):=(tree_Find.f l0 a1).bind fun t1=>(tree_Up.l0 k l0 ([]:List ByteArray) t1)
theorem tree_Up.mono_l: ∀k,(∀y0 y1 y2,LeO (tree_Up.l0 k y0 y1 y2) (tree_Up.l0 (k+1) y0 y1 y2))
 |0=>fun _ _ _ r h=>by simp [tree_Up.l0] at h
 |k+1=>by
  have ih0:=tree_Up.mono_l k
  intro y0 y1 y2
  unfold tree_Up.l0
  repeat' first
  |(with_reducible exact ih0 _ _ _)
  |(with_reducible exact LeO.refl _)
  |(with_reducible exact LeO.none _)
  |(with_reducible refine LeO.ite ?_ ?_)
  |(with_reducible refine LeO.bind ?_ (fun _=> ?_))
  |exact ih0 _ _ _
  |exact LeO.none _
  |refine LeO.ite ?_ ?_
  |refine LeO.bind ?_ (fun _=> ?_)
theorem tree_Up.mono: ∀a0 a1 k,LeO (tree_Up.f k a0 a1) (tree_Up.f (k+1) a0 a1):=by
 intro a0 a1 k
 have ih0:=tree_Up.mono_l k
 unfold tree_Up.f
 repeat' first
  |(with_reducible exact ih0 _ _ _)
  |(with_reducible exact LeO.refl _)
  |(with_reducible exact LeO.none _)
  |(with_reducible refine LeO.ite ?_ ?_)
  |(with_reducible refine LeO.bind ?_ (fun _=> ?_))
  |exact ih0 _ _ _
  |exact LeO.none _
  |refine LeO.ite ?_ ?_
  |refine LeO.bind ?_ (fun _=> ?_)
set_option maxHeartbeats 8000000 in
set_option maxRecDepth 100000 in
theorem tree_Up.calls (k:Nat) (A0:Option Addr) (c0:Nat) (l0:List (S31)) (a1:ByteArray) (r:List ByteArray) (w:World) (hr0:Kd.C k31 w A0 l0.length l0) (hc0:l0.length≤c0) (h:tree_Up.f k l0 a1=some r):
  Calls Try.prog 70 #[.slice A0 l0.length c0, .string a1] w fun e w'=> ∃v0_:Value,e= .returned (v0_)∧Kd.R Kd.string 9 w' w.heap.size (fun _=>True) v0_ r∧Below w.heap.size w w':=by
 have HR0:=Aside0.mk hr0
 have HC0:=Aside0.mk hc0
 clear hr0 hc0
 have HB:=am_ (Below.refl w.heap.size w)
 have H:((tree_Find.f l0 a1).bind fun t1=>(tree_Up.l0 k l0 ([]:List ByteArray) t1))=some r:=h
 clear h
 replace H:=Option.bind_eq_some_iff.mp H
 obtain ⟨t1,A30,H⟩:=H
 try dsimp only at H
 have A3:=Aside0.mk A30
 clear A30
 have H':=Aside0.mk H
 clear H
 go_enter Try.func70,Try.ntmps70
 go_wp2_with (first|((with_reducible refine gate_callee (f:=71) rfl ?_);refine gl_ (some 9) Try.func71 #[.slice A0 l0.length c0, .string a1] ?_;(with_reducible refine (tree_Find.calls _ _ l0 a1 t1 _ ?side1 ?side2 A3.out).mono ?_);(case side1=>repeat (first|exact HR0.out|(with_reducible refine Kd.C_alloc ?_ _)|(with_reducible refine Kd.C_drewN ?_ _)|(with_reducible refine Kd.C_drew ?_)));(case side2=>exact HC0.out);rintro e w4 ⟨rfl,hb⟩;refine ⟨_,rfl, ?_⟩;replace HB:=am_ (below_step (zl0_ HB) hb);(try clear hb);(try clear hb2);(try clear hk);(try clear hi)))
 go_loopg [5,6] k (fun kq v5 v6 w'=> ∃(x5_1:List ByteArray) (x6_1:Int),v6= .int .i64 x6_1∧Aside0 (tree_Up.l0 kq l0 x5_1 x6_1=some r)∧Aside0 (kq≤k)∧Aside0 (Kd.R Kd.string 9 w' w.heap.size (fun _=>True) v5 x5_1)∧Aside0 (Below w.heap.size w w'))
 case atStart=>exact ⟨(([]:List ByteArray)),(t1),(by first|rfl|(simp;done)|(simp [*];done)),H',⟨Nat.le_refl _⟩,⟨by first|exact Kd.R_nil _ _ _ _ _|exact Kd.N_nil _ _ _ _ _|exact Kd.V_nil _ _ _ _ _|exact Kd.Q_nil _ _ _ _ _|exact Kd.S_nil _ _ _ _ _⟩,⟨zl0_ HB⟩⟩
 case round=>
  clear H'
  try clear p2
  obtain ⟨x5_1,x6_1,rfl,HA,HK1,HO_5,HB⟩:=hrel
  cases gk with
  |zero=>exact absurd HA.out (by simp [tree_Up.l0])
  |succ k1=>
   have H:=HA.out
   clear HA
   simp only [tree_Up.l0] at H
   by_cases c5:x6_1≥0
   rotate_left
   ·rw [if_neg c5] at H
    have c5b0:decide (0≤x6_1)=false:=decide_eq_false c5
    clear c5
    obtain rfl:=Option.some.inj H
    go_wp2
    go_ret
    exact ⟨_,by first|rfl|(simp [errW_none,errW_some]<;>rfl)|(simp [*,errW_none,errW_some]<;>rfl),by (with_reducible repeat (first|apply Kd.R_alloc|apply Kd.R_drewN|apply Kd.R_drew));exact HO_5.out,zl0_ HB⟩

   rw [if_pos c5] at H
   have c5b0:decide (0≤x6_1)=true:=decide_eq_true c5
   clear c5
   by_cases c6:(x5_1.length:Int)≤(l0.length:Int)
   rotate_left
   ·rw [if_neg c6] at H
    have c6b0:decide ((x5_1.length:Int)≤(l0.length:Int))=false:=decide_eq_false c6
    have c6b1:decide (x5_1.length≤l0.length)=false:=decide_eq_false (fun h=>c6 (Int.ofNat_le.mpr h))
    clear c6
    obtain rfl:=Option.some.inj H
    obtain ⟨Ao14,co14,eo14⟩:=Kd.R_slice HO_5.out
    subst eo14
    go_wp2
    go_ret
    exact ⟨_,by first|rfl|(simp [errW_none,errW_some]<;>rfl)|(simp [*,errW_none,errW_some]<;>rfl),by (with_reducible repeat (first|apply Kd.R_alloc|apply Kd.R_drewN|apply Kd.R_drew));exact HO_5.out,zl0_ HB⟩
   rw [if_pos c6] at H
   have c6b0:decide ((x5_1.length:Int)≤(l0.length:Int))=true:=decide_eq_true c6
   have c6b1:decide (x5_1.length≤l0.length)=true:=decide_eq_true (Int.ofNat_le.mp c6)
   clear c6
   by_cases c7:0≤x6_1
   rotate_left
   ·rw [if_neg c7] at H
    exact absurd H (by simp)
   rw [if_pos c7] at H
   have c7b0:decide (0≤x6_1)=true:=decide_eq_true c7
   clear c7
   by_cases c8:x6_1<(l0.length:Int)
   rotate_left
   ·rw [if_neg c8] at H
    exact absurd H (by simp)
   rw [if_pos c8] at H
   have c8b0:decide (x6_1<(l0.length:Int))=true:=decide_eq_true c8
   clear c8
   by_cases c9:x5_1.length<8796093022208
   rotate_left
   ·rw [if_neg c9] at H
    exact absurd H (by simp)
   rw [if_pos c9] at H
   have LMc9:=Aside0.mk c9
   clear c9
   obtain ⟨y3,hy3⟩: ∃y_:List ByteArray,y_=(x5_1++ [(rd_T31 l0 x6_1).f0]):=⟨_,rfl⟩
   replace H:((tree_Find.f l0 ((rd_T31 l0 x6_1).f1)).bind fun t7=>(tree_Up.l0 k1 l0 y3 t7))=some r:=by first|(rw [hy3];with_reducible exact H)|(have H2_:=(Option.bind_some _ _).symm.trans H;rw [hy3];with_reducible exact H2_)|(have H2_:=(Option.bind_some _ _).symm.trans H;with_reducible exact H2_)|with_reducible exact H|(rw [hy3];exact H)|exact H
   have Ny3:=Aside0.mk hy3
   clear hy3
   replace H:=Option.bind_eq_some_iff.mp H
   obtain ⟨t7,A100,H⟩:=H
   try dsimp only at H
   have A10:=Aside0.mk A100
   clear A100
   have H':=Aside0.mk H
   clear H
   obtain ⟨Ao11,co11,eo11⟩:=Kd.R_slice HO_5.out
   subst eo11
   have p2:0≤(x6_1:Int):=of_decide_eq_true zq_
   have q2:x6_1<(l0.length:Int):=of_decide_eq_true zq_
   obtain ⟨ad2,e2,hx2_0,hx2_1,hx2_2,hx2_3,hx2_4,hx2_5,hx2_6,hx2_7,hx2_8,hx2_9,hx2_10,hx2_11⟩:=at_T31 HR0.out x6_1 p2 q2
   cases e2
   replace hx2_0:=zx_ HB hx2_0
   replace hx2_1:=zx_ HB hx2_1
   replace hx2_2:=zx_ HB hx2_2
   replace hx2_3:=zx_ HB hx2_3
   replace hx2_4:=zx_ HB hx2_4
   replace hx2_5:=zx_ HB hx2_5
   replace hx2_6:=zx_ HB hx2_6
   replace hx2_7:=zx_ HB hx2_7
   replace hx2_8:=zx_ HB hx2_8
   replace hx2_9:=zx_ HB hx2_9
   replace hx2_10:=zx_ HB hx2_10
   replace hx2_11:=zx_ HB hx2_11
   replace p2:=eq_true p2
   replace q2:=eq_true q2
   go_wp2_with (first|((with_reducible refine gate_builtin (b:= .append) (xs:=#[.tmp 26, .tmp 32]) rfl ?_);(try (refine gate_guard (by rfl) ?_;dsimp only));at_builtin;refine Kd.R_append Kd.string (w0:=w) w.heap.size rfl (.tmp 26) (.tmp 32) 74 9 (.string ⟨#[]⟩) 16 rfl Try.underlying74 info9 rfl (by decide) (by omega) (.slice Ao11 x5_1.length co11) x5_1 ((rd_T31 l0 x6_1).f0) [.string ((rd_T31 l0 x6_1).f0)] (fun _=>True) (fun _=>False) rfl rfl ?aP (fun _ hk=>hk.elim) ?aF ?aO ?aB ?aS ?aL ?_;(case aP=>exact rfl);(case aB=>exact (zl0_ HB));(case aF=>exact (fun _ _=>trivial));(case aO=>exact (zr_ HO_5));(case aS=>exact (below_size (zl0_ HB)));(case aL=>have:=LMc9.out;omega);intro v4 w12 ho hb hg hat;rw [←Ny3.out] at ho;have n0_:=am_ (hb);have n1_:=am_ (ho);clear HB;clear HO_5;have HB:=n0_;have HO5:=n1_;clear n0_ n1_;clear ho hb hg hat;have p6:0≤(x6_1:Int):=of_decide_eq_true zq_;have q6:x6_1<(l0.length:Int):=of_decide_eq_true zq_;obtain ⟨ad6,e6,hx6_0,hx6_1,hx6_2,hx6_3,hx6_4,hx6_5,hx6_6,hx6_7,hx6_8,hx6_9,hx6_10,hx6_11⟩:=at_T31 HR0.out x6_1 p6 q6;obtain rfl:ad2=ad6:=(by injection e6);replace hx6_0:=zx_ HB hx6_0;replace hx6_1:=zx_ HB hx6_1;replace hx6_2:=zx_ HB hx6_2;replace hx6_3:=zx_ HB hx6_3;replace hx6_4:=zx_ HB hx6_4;replace hx6_5:=zx_ HB hx6_5;replace hx6_6:=zx_ HB hx6_6;replace hx6_7:=zx_ HB hx6_7;replace hx6_8:=zx_ HB hx6_8;replace hx6_9:=zx_ HB hx6_9;replace hx6_10:=zx_ HB hx6_10;replace hx6_11:=zx_ HB hx6_11;replace p6:=eq_true p6;replace q6:=eq_true q6)|((with_reducible refine gate_callee (f:=71) rfl ?_);refine gl_ (some 25) Try.func71 #[.slice (some ad2) l0.length c0, .string ((rd_T31 l0 x6_1).f1)] ?_;(with_reducible refine (tree_Find.calls _ _ l0 ((rd_T31 l0 x6_1).f1) t7 _ ?side1 ?side2 A10.out).mono ?_);(case side1=>exact zc_ (Kd.C_below HR0.out HB.out));(case side2=>exact HC0.out);rintro e w13 ⟨rfl,hb⟩;refine ⟨_,rfl, ?_⟩;replace HO5:=am_ (Kd.R_below (zr_ HO5) hb);replace HB:=am_ (below_step (zl0_ HB) hb);(try clear hb);(try clear hb2);(try clear hk);(try clear hi)))
   go_roundg k1
   case measure=>have:=HK1.out;omega
   case rel=>exact ⟨(y3),(t7),(by first|rfl|(simp;done)|(simp [*];done)),H',⟨by have:=HK1.out;omega⟩,⟨by (with_reducible repeat (first|apply Kd.R_alloc|apply Kd.R_drewN|apply Kd.R_drew));exact HO5.out⟩,⟨zl0_ HB⟩⟩
def vec_Le.f (a0_0:Int) (a0_1:Int) (a0_2:Int) (a1_0:Int) (a1_1:Int) (a1_2:Int):Option (Bool):=if a0_0≤a1_0 then (if a0_1≤a1_1 then (some (decide (a0_2≤a1_2))) else (some false)) else (some false)
set_option maxHeartbeats 8000000 in
set_option maxRecDepth 100000 in
theorem vec_Le.calls (a0_0:Int) (a0_1:Int) (a0_2:Int) (a1_0:Int) (a1_1:Int) (a1_2:Int) (r:Bool) (w:World) (h:vec_Le.f a0_0 a0_1 a0_2 a1_0 a1_1 a1_2=some r):
  Calls Try.prog 118 #[.agg #[.int .i64 a0_0, .int .i64 a0_1, .int .i64 a0_2], .agg #[.int .i64 a1_0, .int .i64 a1_1, .int .i64 a1_2]] w fun e w'=>e= .returned (.bool r)∧Below w.heap.size w w':=by
 have hu27:=Try.underlying27
 have HB:=am_ (Below.refl w.heap.size w)
 have H:(if a0_0≤a1_0 then (if a0_1≤a1_1 then (some (decide (a0_2≤a1_2))) else (some false)) else (some false))=some r:=h
 clear h
 by_cases c3:a0_0≤a1_0
 rotate_left
 ·rw [if_neg c3] at H
  have c3b0:decide (a0_0≤a1_0)=false:=decide_eq_false c3
  clear c3
  obtain rfl:=Option.some.inj H
  go_enter Try.func118,Try.ntmps118
  go_wp2_with (first|((with_reducible refine gate_dst (N:=2) rfl ?_);refine bx_ (N:=2) (cs:=#[.int .i64 a0_0, .int .i64 a0_1, .int .i64 a0_2]) (t:=27) ?_;intro gb1 hg w15 hbox hb;have BK1:=am_ (hbox);have GW1:=am_ ((zg0_ HB hg:w.heap.size≤gb1));have GE1:=am_ ((zg0_ HB hg:w.heap.size≤gb1));replace HB:=am_ (below_step (zl0_ HB) hb);clear hb hbox hg)|((with_reducible refine gate_dst (N:=3) rfl ?_);refine bx_ (N:=3) (cs:=#[.int .i64 a1_0, .int .i64 a1_1, .int .i64 a1_2]) (t:=27) ?_;intro gb2 hg w16 hbox hb;have BK2:=am_ (hbox);have GW2:=am_ ((zg1_ HB GE1 hg:w.heap.size≤gb2));have GE2:=am_ ((zg1_ HB GE1 hg:w.heap.size≤gb2));replace HB:=am_ (below_step (zl1_ HB GE1) hb);have NB1_2:=am_ ((zn_ BK1 hg:gb1≠gb2));have NB2_1:=am_ ((zm_ BK1 hg:gb2≠gb1));replace BK1:=am_ (blk_below (zb_ BK1) hb);clear hb hbox hg;have hnb17:=NB1_2.out;have hnc17:=NB2_1.out;obtain ⟨hcz18_0,hcz18_1,hcz18_2,hfz18_0,hfz18_1,hfz18_2⟩:=y3_ BK1;obtain ⟨hcz19_0,hcz19_1,hcz19_2⟩:=x3_ BK2;have hfz19_0:=blk_frozen BK2.out 0;have hfz19_1:=blk_frozen BK2.out 1;have hfz19_2:=blk_frozen BK2.out 2))
  go_ret
  exact ⟨by first|rfl|(simp [errW_none,errW_some]<;>rfl)|(simp [*,errW_none,errW_some]<;>rfl),zl2_ HB GE1 GE2⟩

 rw [if_pos c3] at H
 have c3b0:decide (a0_0≤a1_0)=true:=decide_eq_true c3
 clear c3
 by_cases c4:a0_1≤a1_1
 ·rw [if_pos c4] at H
  have c4b0:decide (a0_1≤a1_1)=true:=decide_eq_true c4
  clear c4
  obtain rfl:=Option.some.inj H
  go_enter Try.func118,Try.ntmps118
  go_wp2_with (first|((with_reducible refine gate_dst (N:=2) rfl ?_);refine bx_ (N:=2) (cs:=#[.int .i64 a0_0, .int .i64 a0_1, .int .i64 a0_2]) (t:=27) ?_;intro gb1 hg w5 hbox hb;have BK1:=am_ (hbox);have GW1:=am_ ((zg0_ HB hg:w.heap.size≤gb1));have GE1:=am_ ((zg0_ HB hg:w.heap.size≤gb1));replace HB:=am_ (below_step (zl0_ HB) hb);clear hb hbox hg)|((with_reducible refine gate_dst (N:=3) rfl ?_);refine bx_ (N:=3) (cs:=#[.int .i64 a1_0, .int .i64 a1_1, .int .i64 a1_2]) (t:=27) ?_;intro gb2 hg w6 hbox hb;have BK2:=am_ (hbox);have GW2:=am_ ((zg1_ HB GE1 hg:w.heap.size≤gb2));have GE2:=am_ ((zg1_ HB GE1 hg:w.heap.size≤gb2));replace HB:=am_ (below_step (zl1_ HB GE1) hb);have NB1_2:=am_ ((zn_ BK1 hg:gb1≠gb2));have NB2_1:=am_ ((zm_ BK1 hg:gb2≠gb1));replace BK1:=am_ (blk_below (zb_ BK1) hb);clear hb hbox hg;have hnb7:=NB1_2.out;have hnc7:=NB2_1.out;obtain ⟨hcz8_0,hcz8_1,hcz8_2,hfz8_0,hfz8_1,hfz8_2⟩:=y3_ BK1;obtain ⟨hcz9_0,hcz9_1,hcz9_2⟩:=x3_ BK2;have hfz9_0:=blk_frozen BK2.out 0;have hfz9_1:=blk_frozen BK2.out 1;have hfz9_2:=blk_frozen BK2.out 2))
  go_ret
  exact ⟨by first|rfl|(simp [errW_none,errW_some]<;>rfl)|(simp [*,errW_none,errW_some]<;>rfl),zl2_ HB GE1 GE2⟩
 rw [if_neg c4] at H
 have c4b0:decide (a0_1≤a1_1)=false:=decide_eq_false c4
 clear c4
 obtain rfl:=Option.some.inj H
 go_enter Try.func118,Try.ntmps118
 go_wp2_with (first|((with_reducible refine gate_dst (N:=2) rfl ?_);refine bx_ (N:=2) (cs:=#[.int .i64 a0_0, .int .i64 a0_1, .int .i64 a0_2]) (t:=27) ?_;intro gb1 hg w10 hbox hb;have BK1:=am_ (hbox);have GW1:=am_ ((zg0_ HB hg:w.heap.size≤gb1));have GE1:=am_ ((zg0_ HB hg:w.heap.size≤gb1));replace HB:=am_ (below_step (zl0_ HB) hb);clear hb hbox hg)|((with_reducible refine gate_dst (N:=3) rfl ?_);refine bx_ (N:=3) (cs:=#[.int .i64 a1_0, .int .i64 a1_1, .int .i64 a1_2]) (t:=27) ?_;intro gb2 hg w11 hbox hb;have BK2:=am_ (hbox);have GW2:=am_ ((zg1_ HB GE1 hg:w.heap.size≤gb2));have GE2:=am_ ((zg1_ HB GE1 hg:w.heap.size≤gb2));replace HB:=am_ (below_step (zl1_ HB GE1) hb);have NB1_2:=am_ ((zn_ BK1 hg:gb1≠gb2));have NB2_1:=am_ ((zm_ BK1 hg:gb2≠gb1));replace BK1:=am_ (blk_below (zb_ BK1) hb);clear hb hbox hg;have hnb12:=NB1_2.out;have hnc12:=NB2_1.out;obtain ⟨hcz13_0,hcz13_1,hcz13_2,hfz13_0,hfz13_1,hfz13_2⟩:=y3_ BK1;obtain ⟨hcz14_0,hcz14_1,hcz14_2⟩:=x3_ BK2;have hfz14_0:=blk_frozen BK2.out 0;have hfz14_1:=blk_frozen BK2.out 1;have hfz14_2:=blk_frozen BK2.out 2))
 go_ret
 exact ⟨by first|rfl|(simp [errW_none,errW_some]<;>rfl)|(simp [*,errW_none,errW_some]<;>rfl),zl2_ HB GE1 GE2⟩
theorem at_str {w:World} {A:Option Addr} {n:Nat} {xs:List ByteArray} (h:Kd.C Kd.string w A n xs) (i:Int) (h0:0≤i) (h1:i<n): ∃ad,A=some ad∧w.cell? (ad.add i.toNat)=some (.string (rdOf ByteArray.empty xs i)):=by
 obtain ⟨ad,c,e,_,hK,hc⟩:=Kd.C_get h ByteArray.empty i h0 h1
 have hc0: ∀j u,c[j]?=some u→w.cell? (ad.add (i.toNat*1+j))=some u:=hc
 obtain rfl:c=[.string (xs.getD i.toNat ByteArray.empty)]:=hK
 have:=hc0 0 _ rfl
 rw [Nat.mul_one,Nat.add_zero] at this
 exact ⟨ad,e,this⟩
-- uses fidx
def slices_Index_string_string.l0:Nat→List ByteArray→ByteArray→Int→Int→Option (Int)
 |0,_,_,_,_=>none
 |k+1,x0,x1,x7,x8=>if x8<x7 then (if 0≤x8 then (if x8<(x0.length:Int) then (if x1.toList=(rdOf ByteArray.empty x0 x8).toList then (some x8) else (slices_Index_string_string.l0 k x0 x1 x7 (wrap64 (x8+1)))) else (none)) else (none)) else (some (-1))
def slices_Index_string_string.f (k:Nat) (l0:List ByteArray) (a1:ByteArray):Option (Int):=slices_Index_string_string.l0 k l0 a1 (l0.length:Int) 0
theorem slices_Index_string_string.mono_l: ∀k,(∀y0 y1 y2 y3,LeO (slices_Index_string_string.l0 k y0 y1 y2 y3) (slices_Index_string_string.l0 (k+1) y0 y1 y2 y3))
 |0=>fun _ _ _ _ r h=>by simp [slices_Index_string_string.l0] at h
 |k+1=>by
  have ih0:=slices_Index_string_string.mono_l k
  intro y0 y1 y2 y3
  unfold slices_Index_string_string.l0
  repeat' first
  |(with_reducible exact ih0 _ _ _ _)
  |(with_reducible exact LeO.refl _)
  |(with_reducible exact LeO.none _)
  |(with_reducible refine LeO.ite ?_ ?_)
  |(with_reducible refine LeO.bind ?_ (fun _=> ?_))
  |exact ih0 _ _ _ _
  |exact LeO.none _
  |refine LeO.ite ?_ ?_
  |refine LeO.bind ?_ (fun _=> ?_)
theorem slices_Index_string_string.mono: ∀a0 a1 k,LeO (slices_Index_string_string.f k a0 a1) (slices_Index_string_string.f (k+1) a0 a1):=by
 intro a0 a1 k
 have ih0:=slices_Index_string_string.mono_l k
 unfold slices_Index_string_string.f
 repeat' first
  |(with_reducible exact ih0 _ _ _ _)
  |(with_reducible exact LeO.refl _)
  |(with_reducible exact LeO.none _)
  |(with_reducible refine LeO.ite ?_ ?_)
  |(with_reducible refine LeO.bind ?_ (fun _=> ?_))
  |exact ih0 _ _ _ _
  |exact LeO.none _
  |refine LeO.ite ?_ ?_
  |refine LeO.bind ?_ (fun _=> ?_)
set_option maxHeartbeats 8000000 in
set_option maxRecDepth 100000 in
theorem slices_Index_string_string.calls (k:Nat) (A0:Option Addr) (c0:Nat) (l0:List ByteArray) (a1:ByteArray) (r:Int) (w:World) (hr0:Kd.C Kd.string w A0 l0.length l0) (hc0:l0.length≤c0) (h:slices_Index_string_string.f k l0 a1=some r):
  Calls Try.prog 165 #[.slice A0 l0.length c0, .string a1] w fun e w'=>e= .returned (.int .i64 r)∧Drawn0 w w':=by
 have HR0:=Aside0.mk hr0
 have HC0:=Aside0.mk hc0
 clear hr0 hc0
 have H:(slices_Index_string_string.l0 k l0 a1 (l0.length:Int) 0)=some r:=h
 clear h
 have H':=Aside0.mk H
 clear H
 go_enter Try.func165,Try.ntmps165
 go_wp2
 go_loopg [8] k (fun kq v8 w'=> ∃(x8_1:Int),v8= .int .i64 x8_1∧Aside0 (slices_Index_string_string.l0 kq l0 a1 (l0.length:Int) x8_1=some r)∧Aside0 (kq≤k)∧Drawn0 w w')
 case atStart=>exact ⟨(0),(by first|rfl|(simp;done)|(simp [*];done)),H',⟨Nat.le_refl _⟩,by repeat (first|exact Drawn0.refl _|apply Drawn0.step)⟩
 case round=>
  clear H'
  try clear c1
  try clear p2
  obtain ⟨x8_1,rfl,HA,HK1,⟨m1,rfl⟩⟩:=hrel
  cases gk with
  |zero=>exact absurd HA.out (by simp [slices_Index_string_string.l0])
  |succ k1=>
   have H:=HA.out
   clear HA
   simp only [slices_Index_string_string.l0] at H
   by_cases c3:x8_1<(l0.length:Int)
   rotate_left
   ·rw [if_neg c3] at H
    have c3b0:decide (x8_1<(l0.length:Int))=false:=decide_eq_false c3
    clear c3
    obtain rfl:=Option.some.inj H
    go_wp2
    go_ret
    exact ⟨by first|rfl|(simp;done)|(simp [*];done),by repeat (first|exact Drawn0.refl _|apply Drawn0.step)⟩

   rw [if_pos c3] at H
   have c3b0:decide (x8_1<(l0.length:Int))=true:=decide_eq_true c3
   clear c3
   by_cases c4:0≤x8_1
   rotate_left
   ·rw [if_neg c4] at H
    exact absurd H (by simp)
   rw [if_pos c4] at H
   have c4b0:decide (0≤x8_1)=true:=decide_eq_true c4
   clear c4
   by_cases c5:x8_1<(l0.length:Int)
   rotate_left
   ·rw [if_neg c5] at H
    exact absurd H (by simp)
   rw [if_pos c5] at H
   have c5b0:decide (x8_1<(l0.length:Int))=true:=decide_eq_true c5
   clear c5
   by_cases c6:a1.toList=(rdOf ByteArray.empty l0 x8_1).toList
   ·rw [if_pos c6] at H
    have c6b0:(a1.toList==(rdOf ByteArray.empty l0 x8_1).toList)=true:=beq_iff_eq.mpr c6
    have c6b1:(a1.toList !=(rdOf ByteArray.empty l0 x8_1).toList)=false:=bne_eq_false_iff_eq.mpr c6
    clear c6
    obtain rfl:=Option.some.inj H
    have p1:0≤(x8_1:Int):=of_decide_eq_true zq_
    have q1:x8_1<(l0.length:Int):=of_decide_eq_true zq_
    obtain ⟨ad1,e1,hx1_0⟩:=Kd.at_string HR0.out x8_1 p1 q1
    cases e1
    replace p1:=eq_true p1
    replace q1:=eq_true q1
    go_wp2
    go_ret
    exact ⟨by first|rfl|(simp;done)|(simp [*];done),by repeat (first|exact Drawn0.refl _|apply Drawn0.step)⟩
   rw [if_neg c6] at H
   have c6b0:(a1.toList==(rdOf ByteArray.empty l0 x8_1).toList)=false:=beq_eq_false_iff_ne.mpr c6
   have c6b1:(a1.toList !=(rdOf ByteArray.empty l0 x8_1).toList)=true:=bne_iff_ne.mpr c6
   have H':=Aside0.mk H
   clear H
   have p1:0≤(x8_1:Int):=of_decide_eq_true zq_
   have q1:x8_1<(l0.length:Int):=of_decide_eq_true zq_
   obtain ⟨ad1,e1,hx1_0⟩:=Kd.at_string HR0.out x8_1 p1 q1
   cases e1
   replace p1:=eq_true p1
   replace q1:=eq_true q1
   go_wp2
   go_roundg k1
   case measure=>have:=HK1.out;omega
   case rel=>exact ⟨(wrap64 (x8_1+1)),(by first|rfl|(simp;done)|(simp [*];done)),H',⟨by have:=HK1.out;omega⟩,by repeat (first|exact Drawn0.refl _|apply Drawn0.step)⟩
def slices_Contains_string_string.f (k:Nat) (l0:List ByteArray) (a1:ByteArray):Option (Bool):=(slices_Index_string_string.f k l0 a1).bind fun t1=>(some (decide (t1≥0)))
theorem slices_Contains_string_string.mono: ∀a0 a1 k,LeO (slices_Contains_string_string.f k a0 a1) (slices_Contains_string_string.f (k+1) a0 a1):=by
 intro a0 a1 k
 unfold slices_Contains_string_string.f
 repeat' first
  |(with_reducible exact slices_Index_string_string.mono _ _ _)
  |(with_reducible exact LeO.refl _)
  |(with_reducible exact LeO.none _)
  |(with_reducible refine LeO.ite ?_ ?_)
  |(with_reducible refine LeO.bind ?_ (fun _=> ?_))
  |exact slices_Index_string_string.mono _ _ _
  |exact LeO.none _
  |refine LeO.ite ?_ ?_
  |refine LeO.bind ?_ (fun _=> ?_)
set_option maxHeartbeats 8000000 in
set_option maxRecDepth 100000 in
theorem slices_Contains_string_string.calls (k:Nat) (A0:Option Addr) (c0:Nat) (l0:List ByteArray) (a1:ByteArray) (r:Bool) (w:World) (hr0:Kd.C Kd.string w A0 l0.length l0) (hc0:l0.length≤c0) (h:slices_Contains_string_string.f k l0 a1=some r):
  Calls Try.prog 131 #[.slice A0 l0.length c0, .string a1] w fun e w'=>e= .returned (.bool r)∧Drawn0 w w':=by
 have HR0:=Aside0.mk hr0
 have HC0:=Aside0.mk hc0
 clear hr0 hc0
 have H:((slices_Index_string_string.f k l0 a1).bind fun t1=>(some (decide (t1≥0))))=some r:=h
 clear h
 replace H:=Option.bind_eq_some_iff.mp H
 obtain ⟨t1,A30,H⟩:=H
 try dsimp only at H
 have A3:=Aside0.mk A30
 clear A30
 obtain rfl:=Option.some.inj H
 go_enter Try.func131,Try.ntmps131
 go_wp2_with (first|((with_reducible refine gate_callee (f:=165) rfl ?_);refine gl_ (some 7) Try.func165 #[.slice A0 l0.length c0, .string a1] ?_;(with_reducible refine (slices_Index_string_string.calls k _ _ l0 a1 t1 _ ?side1 ?side2 A3.out).mono ?_);(case side1=>repeat (first|exact HR0.out|(with_reducible refine Kd.C_alloc ?_ _)|(with_reducible refine Kd.C_drewN ?_ _)|(with_reducible refine Kd.C_drew ?_)));(case side2=>exact HC0.out);rintro e w' ⟨rfl,⟨nd,rfl⟩⟩;refine ⟨_,rfl, ?_⟩))
 go_ret
 exact ⟨by first|rfl|(simp;done)|(simp [*];done),by repeat (first|exact Drawn0.refl _|apply Drawn0.step)⟩

def slices_Clone_Item.f (l0:List (S31)):Option (List (S31)):=if l0.length<1256584717458 then some l0 else none
set_option maxHeartbeats 8000000 in
set_option maxRecDepth 100000 in
theorem slices_Clone_Item.calls (A0:Option Addr) (c0:Nat) (l0:List (S31)) (r:List (S31)) (w:World) (hr0:Kd.C k31 w A0 l0.length l0) (hc0:l0.length≤c0) (h:slices_Clone_Item.f l0=some r):
    Calls Try.prog 153 #[.slice A0 l0.length c0] w fun e w'=> ∃v0_:Value,e= .returned (v0_)∧Kd.R k31 31 w' w.heap.size (fun _=>True) v0_ r∧Below w.heap.size w w':=by
  have hlim:l0.length<1256584717458∧l0=r:=by
    unfold slices_Clone_Item.f at h
    split at h
    · exact ⟨by assumption,Option.some.inj h⟩
    cases h
  obtain ⟨hlim,rfl⟩:=hlim
  have hnil:=fun (W:World) (n c:Nat)=>Lib.run_eql_slice_nil (P:=Try.prog) W 24 31 A0 n c 0 0 Try.underlying24
  cases A0 with
  | none =>
    have hl:l0=[]:=by
      cases l0 with
      |nil=>rfl
      |cons x l=>exact absurd (hr0.2.2 (by simp)) (by simp)
    subst hl
    clear hr0
    go_enter Try.func153,Try.ntmps153
    go_wp2
    go_ret
    exact ⟨_,rfl,Kd.R_nil _ _ _ _ _,Below.refl _ _⟩
  | some ad =>
    have HR0:=Aside0.mk hr0
    have HC0:=Aside0.mk hc0
    have LM:=Aside0.mk hlim
    clear hr0 hc0 hlim h
    have HB:=am_ (Below.refl w.heap.size w)
    go_enter Try.func153,Try.ntmps153
    go_wp2_with (first|((with_reducible refine gate_dst (N:=5) rfl ?_);refine Kd.R_lit k31 _ 31 ?hg (N:=5) ?hd (xs:=([]:List (S31))) (inner:=[]) (ok:=fun _=>True) (okp:=fun _=>True) ?hr ?hp (fun _ hk=>hk) trivial (Below.refl _ _) (Nat.le_refl _) (by simp) ?_;(case hd=>rfl);(case hg=>rfl);(case hr=>first|(go_simp;done)|(go_simp;rfl));(case hp=>exact (Reps.none _ _));intro v2 w3 ho4 hb hg_ hnew_;clear hg_ hnew_;have HO3:=am_ (Kd.R_lower ho4 (below_size HB.out));replace HB:=am_ (below_step HB.out hb);clear hb ho4)|((with_reducible refine gate_builtin (b:= .append) (xs:=#[.tmp 5, .tmp 6]) rfl ?_);at_builtin;refine Kd.R_append_rows k31 (w0:=w) w.heap.size rfl (.tmp 5) (.tmp 6) 24 31 (.agg #[(.string ⟨#[]⟩),(.string ⟨#[]⟩),(.int .i64 0),(.int .i64 0),(.int .i64 0),(.int .i64 0),(.int .i64 0),(.int .i64 0),(.int .i64 0),(.int .i64 0),(.int .i64 0),(.int .i64 0)]) 112 rfl Try.underlying24 info31 rfl (by decide) (by omega) v2 [] l0 _ _ _ (fun _=>True) (fun _=>False) rfl rfl ?aO ?aR (fun _ _ h=>h) (fun _ h=>h.elim) ?aF ?aB ?aS ?aL ?_;(case aR=>exact (Kd.C_below HR0.out HB.out));(case aB=>exact HB.out);(case aF=>exact (fun _ _=>trivial));(case aO=>exact HO3.out);(case aS=>exact (below_size HB.out));(case aL=>have:=LM.out;simp;omega);intro v5 w5 ho hb hg hat;have n0_:=am_ (hb);have n1_:=am_ (ho);clear HB;clear HO3;have HB:=n0_;have HO6:=n1_;clear n0_ n1_;clear ho hb hg hat))
    go_ret
    exact ⟨_,rfl,HO6.out,HB.out⟩


def shape_made.f (l0:List (S31)) (a1:ByteArray):Option ((List (S31))×Int):=(slices_Clone_Item.f l0).bind fun t2=>((tree_Find.f l0 a1).bind fun t5=>(some (t2,t5)))
set_option maxHeartbeats 8000000 in
set_option maxRecDepth 100000 in
theorem shape_made.calls (A0:Option Addr) (c0:Nat) (l0:List (S31)) (a1:ByteArray) (r1:List (S31)) (r2:Int) (w:World) (hr0:Kd.C k31 w A0 l0.length l0) (hc0:l0.length≤c0) (h:shape_made.f l0 a1=some (r1,r2)):
  Calls Try.prog 137 #[.slice A0 l0.length c0, .string a1] w fun e w'=> ∃v0_:Value,e= .returned (.agg #[v0_, .int .i64 r2])∧Kd.R k31 31 w' w.heap.size (fun _=>True) v0_ r1∧Below w.heap.size w w':=by
 have hu168:=Try.underlying168
 have hu166:=Try.underlying166
 have HR0:=Aside0.mk hr0
 have HC0:=Aside0.mk hc0
 clear hr0 hc0
 have HB:=am_ (Below.refl w.heap.size w)
 have H:((slices_Clone_Item.f l0).bind fun t2=>((tree_Find.f l0 a1).bind fun t5=>(some (t2,t5))))=some (r1,r2):=h
 clear h
 replace H:=Option.bind_eq_some_iff.mp H
 obtain ⟨t2,A30,H⟩:=H
 try dsimp only at H
 have A3:=Aside0.mk A30
 clear A30
 replace H:=Option.bind_eq_some_iff.mp H
 obtain ⟨t5,A40,H⟩:=H
 try dsimp only at H
 have A4:=Aside0.mk A40
 clear A40
 simp only [Option.some.injEq,Prod.mk.injEq] at H
 obtain ⟨rfl,rfl⟩:=H
 go_enter Try.func137,Try.ntmps137
 go_wp2_with (first|((with_reducible refine gate_dst (N:=4) rfl ?_);refine bx_ (N:=4) (cs:=#[.slice none 0 0, .int .i64 0]) (t:=168) ?_;intro gb1 hg w5 hbox hb;have BK1:=am_ (hbox);have GW1:=am_ ((zg0_ HB hg:w.heap.size≤gb1));have GE1:=am_ ((zg0_ HB hg:w.heap.size≤gb1));replace HB:=am_ (below_step (zl0_ HB) hb);clear hb hbox hg)|((with_reducible refine gate_callee (f:=153) rfl ?_);refine gl_ (some 6) Try.func153 #[.slice A0 l0.length c0] ?_;(with_reducible refine (slices_Clone_Item.calls _ _ l0 t2 _ ?side1 ?side2 A3.out).mono ?_);(case side1=>exact zc_ (Kd.C_below HR0.out HB.out));(case side2=>exact HC0.out);rintro e w6 ⟨v3,rfl,ho0,hb⟩;refine ⟨_,rfl, ?_⟩;have HO4:=am_ (Kd.R_lower ho0 (below_size (zl1_ HB GE1)));replace BK1:=am_ (blk_below (zb_ BK1) hb);replace HB:=am_ (below_step (zl1_ HB GE1) hb);(try clear hb);(try clear hb2);(try clear hk);(try clear hi);(try clear ho0);obtain ⟨Ao7,co7,eo7⟩:=Kd.R_slice HO4.out;subst eo7)|((with_reducible refine gate_callee (f:=71) rfl ?_);refine gl_ (some 10) Try.func71 #[.slice A0 l0.length c0, .string a1] ?_;(with_reducible refine (tree_Find.calls _ _ l0 a1 t5 _ ?side1 ?side2 A4.out).mono ?_);(case side1=>exact zc_ (Kd.C_below HR0.out HB.out));(case side2=>exact HC0.out);rintro e w8 ⟨rfl,hb⟩;refine ⟨_,rfl, ?_⟩;replace HO4:=am_ (Kd.R_below (zr_ HO4) hb);replace BK1:=am_ (blk_below (zb_ BK1) hb);replace HB:=am_ (below_step (zl1_ HB GE1) hb);(try clear hb);(try clear hb2);(try clear hk);(try clear hi);obtain ⟨hcz9_0,hcz9_1⟩:=x2_ BK1;have hfz9_0:=blk_frozen BK1.out 0;have hfz9_1:=blk_frozen BK1.out 1))
 refine bodyPost_ret (results_cell_row rfl _ _ gb1 168 #[.slice Ao7 t2.length co7, .int .i64 t5] (0,0) _ rfl (zw_ BK1) Try.underlying168 rfl (by kernel_rfl)) rfl ?_
 exact ⟨_,by first|rfl|(simp [errW_none,errW_some]<;>rfl)|(simp [*,errW_none,errW_some]<;>rfl),zy_ HO4 BK1,zl1_ HB GE1⟩

def shape_change_parent.f (l0_0:List (S31)) (a0_1:Int) (a1:ByteArray):Option (Bool):=if a1.toList=([]:List UInt8) then (some true) else ((tree_Find.f l0_0 a1).bind fun t2=>(some (decide (t2≥0))))
set_option maxHeartbeats 8000000 in
set_option maxRecDepth 100000 in
theorem shape_change_parent.calls (A0_0:Option Addr) (c0_0:Nat) (l0_0:List (S31)) (a0_1:Int) (a1:ByteArray) (r:Bool) (w:World) (hr0_0:Kd.C k31 w A0_0 l0_0.length l0_0) (hc0_0:l0_0.length≤c0_0) (h:shape_change_parent.f l0_0 a0_1 a1=some r):
  Calls Try.prog 138 #[.agg #[.slice A0_0 l0_0.length c0_0, .int .i64 a0_1], .string a1] w fun e w'=>e= .returned (.bool r)∧Below w.heap.size w w':=by
 have hu168:=Try.underlying168
 have HR0_0:=Aside0.mk hr0_0
 have HC0_0:=Aside0.mk hc0_0
 clear hr0_0 hc0_0
 have HB:=am_ (Below.refl w.heap.size w)
 have H:(if a1.toList=([]:List UInt8) then (some true) else ((tree_Find.f l0_0 a1).bind fun t2=>(some (decide (t2≥0)))))=some r:=h
 clear h
 by_cases c3:a1.toList=([]:List UInt8)
 ·rw [if_pos c3] at H
  have c3b0:(a1.toList==([]:List UInt8))=true:=beq_iff_eq.mpr c3
  have c3b1:(a1.toList !=([]:List UInt8))=false:=bne_eq_false_iff_eq.mpr c3
  clear c3
  obtain rfl:=Option.some.inj H
  go_enter Try.func138,Try.ntmps138
  go_wp2_with (first|((with_reducible refine gate_dst (N:=2) rfl ?_);refine bx_ (N:=2) (cs:=#[.slice A0_0 l0_0.length c0_0, .int .i64 a0_1]) (t:=168) ?_;intro gb1 hg w4 hbox hb;have BK1:=am_ (hbox);have GW1:=am_ ((zg0_ HB hg:w.heap.size≤gb1));have GE1:=am_ ((zg0_ HB hg:w.heap.size≤gb1));replace HB:=am_ (below_step (zl0_ HB) hb);clear hb hbox hg))
  go_ret
  exact ⟨by first|rfl|(simp [errW_none,errW_some]<;>rfl)|(simp [*,errW_none,errW_some]<;>rfl),zl1_ HB GE1⟩
 rw [if_neg c3] at H
 have c3b0:(a1.toList==([]:List UInt8))=false:=beq_eq_false_iff_ne.mpr c3
 have c3b1:(a1.toList !=([]:List UInt8))=true:=bne_iff_ne.mpr c3
 replace H:=Option.bind_eq_some_iff.mp H
 obtain ⟨t2,A50,H⟩:=H
 try dsimp only at H
 have A5:=Aside0.mk A50
 clear A50
 obtain rfl:=Option.some.inj H
 go_enter Try.func138,Try.ntmps138
 go_wp2_with (first|((with_reducible refine gate_dst (N:=2) rfl ?_);refine bx_ (N:=2) (cs:=#[.slice A0_0 l0_0.length c0_0, .int .i64 a0_1]) (t:=168) ?_;intro gb1 hg w6 hbox hb;have BK1:=am_ (hbox);have GW1:=am_ ((zg0_ HB hg:w.heap.size≤gb1));have GE1:=am_ ((zg0_ HB hg:w.heap.size≤gb1));replace HB:=am_ (below_step (zl0_ HB) hb);clear hb hbox hg;obtain ⟨hcz7_0,hcz7_1⟩:=x2_ BK1;have hfz7_0:=blk_frozen BK1.out 0;have hfz7_1:=blk_frozen BK1.out 1)|(go_at_call 71;(with_reducible refine (tree_Find.calls _ _ l0_0 a1 t2 _ ?side1 ?side2 A5.out).mono ?_);(case side1=>exact zc_ (Kd.C_below HR0_0.out HB.out));(case side2=>exact HC0_0.out);rintro e w8 ⟨rfl,hb⟩;replace BK1:=am_ (blk_below (zb_ BK1) hb);replace HB:=am_ (below_step (zl1_ HB GE1) hb);(try clear hb);(try clear hb2);(try clear hk);(try clear hi)))
 go_ret
 exact ⟨by first|rfl|(simp [errW_none,errW_some]<;>rfl)|(simp [*,errW_none,errW_some]<;>rfl),zl1_ HB GE1⟩

theorem sh_head {α:Type} {d:Kd α} {e base:Nat} {ok:Nat→Prop} {w:World} {v:Value} {xs:List α} (h:d.R e w base ok v xs) (hn:0<xs.length): ∃(g c:Nat),v= .slice (some ⟨g,0,none⟩) xs.length c∧base≤g∧g<w.heap.size:=by
  obtain ⟨_,inner,⟨_,h|⟨g,cap,cur,rfl,hg,hh,_⟩⟩,_⟩:=h
  · omega
  exact ⟨g,cap,rfl,hg,blk_lt hh⟩
def shCells (y:S31):List Value:=[.string y.f0, .string y.f1, .int .i64 y.f2.f0, .int .i64 y.f2.f1, .int .i64 y.f2.f2, .int .i64 y.f3.f0, .int .i64 y.f3.f1, .int .i64 y.f3.f2, .int .i64 y.f4.f0, .int .i64 y.f4.f1, .int .i64 y.f4.f2, .int .i64 y.f5]
theorem sh_cells {base:Nat} {w:World} {g c:Nat} {l:List S31} (h:Kd.R k31 31 w base (fun _=>True) (.slice (some ⟨g,0,none⟩) l.length c) l) (j:Int) (h0:0≤j) (h1:j<(l.length:Int)):
  ∀j' u,(shCells (rd_T31 l j))[j']?=some u→w.cell? ⟨g,j.toNat*12+j',none⟩=some u:=by
 obtain ⟨ad2,cc,e3,hcl,hK,hcc0⟩:=Kd.C_get (Kd.R_reads' h).2.2 z31 j h0 h1
 cases e3
 have hcc: ∀j' u,cc[j']?=some u→w.cell? (Addr.add ⟨g,0,none⟩ (j.toNat*12+j'))=some u:=hcc0
 obtain rfl:=k31_open hK
 intro j' u hu
 have:=hcc j' u hu
 rwa [Addr.add_lit,Nat.zero_add] at this
set_option maxHeartbeats 1000000 in
set_option maxRecDepth 100000 in
theorem shapeItem_calls (W:World) (ad:Addr) (n c:Nat) (j:Int) (h0:0≤j) (h1:j<(n:Int)):
  Calls Try.prog 141 #[.agg #[.slice (some ad) n c, .int .i64 j]] W fun e w'=>e= .returned (.pointer (some (ad.add (j.toNat*12))))∧Below W.heap.size W w':=by
 have hu168:=Try.underlying168
 have hu166:=Try.underlying166
 have q0:=eq_true h0
 have q1:=eq_true h1
 go_enter Try.func141,Try.ntmps141
 go_wp2_with fail
 go_ret
 exact ⟨rfl,below_alloc (Below.refl _ _) _⟩
def guardF (l:List S31) (j ver:Int):Option Int:=if j<0 then some 2 else if j<(l.length:Int) then (if 0≤ver∧(rd_T31 l j).f5≠ver then some 14 else some 0) else none
set_option maxHeartbeats 2000000 in
set_option maxRecDepth 100000 in
theorem shapeGuard_calls (W:World) (base:Nat) (v:Value) (l:List S31) (j ver r:Int) (hr:Kd.R k31 31 W base (fun _=>True) v l) (h:guardF l j ver=some r):
    Calls Try.prog 140 #[.agg #[v, .int .i64 j], .int .i64 ver] W fun e w'=>e= .returned (.int .i64 r)∧Below W.heap.size W w':=by
  have hu168:=Try.underlying168
  have hu166:=Try.underlying166
  have hu31:=Try.underlying31
  have hu27:=Try.underlying27
  have HR:=Aside0.mk hr
  clear hr
  unfold guardF at h
  by_cases hj:j<0
  · rw [if_pos hj] at h
    cases h
    have q0:=eq_true hj
    clear hj
    go_enter Try.func140,Try.ntmps140
    go_wp2_with fail
    go_ret
    exact ⟨rfl,below_alloc (Below.refl _ _) _⟩
  rw [if_neg hj] at h
  by_cases h1:j<(l.length:Int)
  rotate_left
  · rw [if_neg h1] at h
    cases h
  rw [if_pos h1] at h
  have h0:0≤j:=by omega
  obtain ⟨gb,cap,rfl,hgb,hgl⟩:=sh_head HR.out (by omega)
  have HC:=sh_cells HR.out j h0 h1
  generalize rd_T31 l j=y at HC h
  have k0:W.cell? ⟨gb,j.toNat*12+11,none⟩=some (.int .i64 y.f5):=HC 11 _ rfl
  have q1:=eq_false hj
  have H0:=Aside0.mk h0
  have H1:=Aside0.mk h1
  have HH:=Aside0.mk h
  have HGL:=Aside0.mk hgl
  have K0:=Aside0.mk k0
  clear HC h hj k0
  by_cases hv:0≤ver
  rotate_left
  · have q2 := eq_false hv
    have hr0:=HH.out
    rw [if_neg (fun h=>hv h.1)] at hr0
    cases hr0
    go_enter Try.func140,Try.ntmps140
    go_wp2_with fail
    go_ret
    exact ⟨rfl,below_alloc (Below.refl _ _) _⟩
  have q2:=eq_true hv
  by_cases hw:y.f5=ver
  · subst hw
    have hr0:=HH.out
    rw [if_neg (by simp)] at hr0
    cases hr0
    go_enter Try.func140,Try.ntmps140
    go_wp2_with (go_at_call 141;refine (shapeItem_calls _ ⟨gb,0,none⟩ l.length cap j H0.out H1.out).mono ?_;rintro e w3 ⟨rfl,hb⟩;have HB3:=am_ (below_then (below_alloc (Below.refl W.heap.size W) _) (by simp) hb);have k3:=(HB3.out.cell (p:=⟨gb,j.toNat*12+11,none⟩) HGL.out).trans K0.out;clear hb)
    go_ret
    exact ⟨rfl,HB3.out⟩
  have hr0:=HH.out
  rw [if_pos ⟨hv,hw⟩] at hr0
  cases hr0
  have q3:=eq_false hw
  go_enter Try.func140,Try.ntmps140
  go_wp2_with (go_at_call 141;refine (shapeItem_calls _ ⟨gb,0,none⟩ l.length cap j H0.out H1.out).mono ?_;rintro e w3 ⟨rfl,hb⟩;have HB3:=am_ (below_then (below_alloc (Below.refl W.heap.size W) _) (by simp) hb);have k3:=(HB3.out.cell (p:=⟨gb,j.toNat*12+11,none⟩) HGL.out).trans K0.out;clear hb)
  go_ret
  exact ⟨rfl,HB3.out⟩
def verF (y:S31):S31:=⟨y.f0,y.f1,y.f2,y.f3,y.f4,wrap64 (y.f5+1)⟩
def olderF (l:List S31) (j:Int):Option (Int×List S31):=if 0≤j∧j<(l.length:Int) then (if (rd_T31 l j).f5≥9007199254740992 then some (4,l) else some (0,l.set j.toNat (verF (rd_T31 l j)))) else none
structure Turned (W w':World) (base:Nat) (v:Value):Prop where
 below:Below base W w'
 block: ∀(k:Nat) o,W.heap[k]?=some o→some k≠v.ownBlock→w'.heap[k]?=some o
theorem Turned.of_below {W w':World} {base:Nat} {v:Value} (h:Below W.heap.size W w') (hb:base≤W.heap.size):Turned W w' base v:=⟨⟨h.os,h.tape,h.output,h.size,fun k hk=>h.block k (Nat.lt_of_lt_of_le hk hb)⟩,fun k o hk _=>blk_below hk h⟩
theorem Turned.then_grown {W w1 w2:World} {base g n c:Nat} (h:Turned W w1 base (.slice (some ⟨g,0,none⟩) n c)) (hb:base≤W.heap.size) (hg0:base≤g) (hg:w1.grownBy w2 (some g)):Turned W w2 base (.slice (some ⟨g,0,none⟩) n c):=
 ⟨pw_below_grown h.below (some g) (Nat.le_trans hb h.below.size) hg (fun k e=>by cases e;exact hg0),fun b o hk hn=>blk_grown (h.block b o hk hn) hg (by intro e;cases e;exact hn rfl)⟩
set_option maxHeartbeats 2000000 in
set_option maxRecDepth 100000 in
theorem shapeOlder_calls (W:World) (base:Nat) (v:Value) (l r2:List S31) (j r1:Int) (hr:Kd.R k31 31 W base (fun _=>True) v l) (hbase:base≤W.heap.size) (h:olderF l j=some (r1,r2)):
    Calls Try.prog 143 #[.agg #[v, .int .i64 j]] W fun e w'=>e= .returned (.int .i64 r1)∧Kd.R k31 31 w' base (fun _=>True) v r2∧Turned W w' base v:=by
  have hu168:=Try.underlying168
  have hu166:=Try.underlying166
  have hu31:=Try.underlying31
  have hu27:=Try.underlying27
  have HR:=Aside0.mk hr
  have HBS:=Aside0.mk hbase
  clear hr hbase
  unfold olderF at h
  by_cases hj:0≤j∧j<(l.length:Int)
  rotate_left
  · rw [if_neg hj] at h
    cases h
  rw [if_pos hj] at h
  obtain ⟨h0,h1⟩:=hj
  obtain ⟨gb,cap,rfl,hgb,hgl⟩:=sh_head HR.out (by omega)
  have hc0:=sh_cells HR.out j h0 h1
  generalize hy:rd_T31 l j=y at hc0 h
  have HY:=Aside0.mk hy
  clear hy
  have k0:W.cell? ⟨gb,j.toNat*12+11,none⟩=some (.int .i64 y.f5):=hc0 11 _ rfl
  have H0:=Aside0.mk h0
  have H1:=Aside0.mk h1
  have HC:=Aside0.mk hc0
  have HGL:=Aside0.mk hgl
  have HGB:=Aside0.mk hgb
  have K0:=Aside0.mk k0
  clear k0 h0 h1 hc0 hgl hgb
  by_cases hv:y.f5≥9007199254740992
  · rw [if_pos hv] at h
    cases h
    have q0:=eq_true hv
    go_enter Try.func143,Try.ntmps143
    go_wp2_with (go_at_call 141;refine (shapeItem_calls _ ⟨gb,0,none⟩ l.length cap j H0.out H1.out).mono ?_;rintro e w3 ⟨rfl,hb⟩;have HB3:=am_ (below_then (below_alloc (Below.refl W.heap.size W) _) (by simp) hb);have k3:=(HB3.out.cell (p:=⟨gb,j.toNat*12+11,none⟩) HGL.out).trans K0.out;have BK3:=am_ (blk_below (blk_new W _) hb);have d0:=(blk_cell BK3.out 0).trans rfl;have d1:=(blk_cell BK3.out 1).trans rfl;clear hb)
    go_ret
    exact ⟨rfl,Kd.R_below HR.out HB3.out,Turned.of_below HB3.out HBS.out⟩
  rw [if_neg hv] at h
  cases h
  have q0:=eq_false hv
  go_enter Try.func143,Try.ntmps143
  go_wp2_with (go_at_call 141;refine (shapeItem_calls _ ⟨gb,0,none⟩ l.length cap j H0.out H1.out).mono ?_;rintro e w3 ⟨rfl,hb⟩;have HB3:=am_ (below_then (below_alloc (Below.refl W.heap.size W) _) (by simp) hb);have k3:=(HB3.out.cell (p:=⟨gb,j.toNat*12+11,none⟩) HGL.out).trans K0.out;have BK3:=am_ (blk_below (blk_new W _) hb);have d0:=(blk_cell BK3.out 0).trans rfl;have d1:=(blk_cell BK3.out 1).trans rfl;clear hb)
  clear k3
  go_wp2_with (first|(go_at_call 141;refine (shapeItem_calls _ ⟨gb,0,none⟩ l.length cap j H0.out H1.out).mono ?_;rintro e w4 ⟨rfl,hb⟩;have HB4:=am_ (below_then HB3.out (HB3.out.size) hb);have k4:=(HB4.out.cell (p:=⟨gb,j.toNat*12+11,none⟩) HGL.out).trans K0.out;clear hb)|((with_reducible refine gate_store (t:=3) (p:=16) (v:= .tmp 14) rfl ?_);(refine Kd.R_store k31 (w0:=w4) base rfl rfl 3 (.tmp 16) (.tmp 14) rfl 31 (g:=gb) (n:=l.length) (cap:=cap) (o':=j.toNat*12+11) j 11 l (verF y) (.int .i64 (wrap64 (y.f5+1))) [.int .i64 (wrap64 (y.f5+1))] (shCells y) (fun _=>True) (fun _=>False) rfl rfl rfl rfl ?ct ?c1 (Kd.R_below HR.out HB4.out) ?c2 ?c3 rfl ?cc (by show 11+1≤12;omega) ?cM (fun _ h=>h.elim) (Below.refl _ _) ?_);(case ct=>kernel_rfl);(case c1=>intro q hq;simp only [List.mem_cons,List.not_mem_nil,or_false] at hq;rcases hq with rfl;rfl);(case c2=>exact H0.out);(case c3=>exact H1.out);(case cc=>exact fun j' u hu=>(HB4.out.cell (p:=⟨gb,j.toNat*12+j',none⟩) HGL.out).trans (HC.out j' u hu));(case cM=>exact k31_mkM _ _ _ (verF y));intro w5 ho hb hg;have HO5:=Aside0.mk ho;have HG5:=Aside0.mk hg;clear ho hb hg))
  go_ret
  refine ⟨rfl, ?_, ?_⟩
  · exact HO5.out
  exact (Turned.of_below HB4.out HBS.out).then_grown HBS.out HGB.out HG5.out
end Go.Proofs.Ytcgefpklljclgaa.Print

namespace Go.Proofs.Ytcgefpklljclgaa.Print
open Go.RowKit Go.Proofs.YtcgefpklljclgaaW.PrintWords Go.Proofs.YtcgefpklljclgaaW.PrintLast Go.Proofs.YtcgefpklljclgaaW.PrintMore
theorem run_copy_wide {P:Program} (w:World) (dT sT ty elem:TypeId) (sz:Nat) (b o dLen dCap:Nat) (a:Addr) (sLen sCap:Nat) (cs:List Value)
    (hu:P.underlying dT=some (.slice elem)) (hs:(P.info? elem).map (·.size)=some sz) (m:Nat) (hm:Nat.min sLen dLen=m) (hn:cs.length=m*sz)
    (hsrc: ∀j v,cs[j]?=some v→w.cell? (a.add j)=some v) (hc: ∀j,j<cs.length→(w.cell? ⟨b,o+j,none⟩).isSome=true) (hf: ∀j,j<cs.length→w.frozen? ⟨b,o+j,none⟩=false) (h1: ∀v∈cs,v.oneCell'=true):
    (Builtin.copy_ #[dT,sT] ty #[.slice (some ⟨b,o,none⟩) dLen dCap, .slice (some a) sLen sCap]).run P w= .ok (goInt m) (w.setCells b o cs):=by
  have hl:=run_loadCells_list (P:=P) w a cs hsrc
  have hst:=run_storeCells_cells (P:=P) b o cs 0 w (by simpa using hc) (by simpa using hf) h1
  cases hq:P.info? elem with
  |none=>simp [hq] at hs
  | some i =>
    have hi:i.size=sz:=by simpa [hq] using hs
    simp [Builtin.copy_,run_underlying hu,Builtin.lenOf,Builtin.firstCells,sizeOf,typeInfo,hq,hi,hm,←hn,hl,hst]
def zCells:List Value:=[.string ⟨#[]⟩, .string ⟨#[]⟩, .int .i64 0, .int .i64 0, .int .i64 0, .int .i64 0, .int .i64 0, .int .i64 0, .int .i64 0, .int .i64 0, .int .i64 0, .int .i64 0]
def flat (l:List S31):List Value:=l.flatMap shCells
theorem shCells_len (y:S31):(shCells y).length=12:=rfl
theorem flat_len: ∀l:List S31,(flat l).length=l.length*12
  |[]=>rfl
  | y :: l => by
    show (shCells y++flat l).length=_
    rw [List.length_append,flat_len l,shCells_len,List.length_cons]
    omega
theorem flat_append (a b:List S31):flat (a++b)=flat a++flat b:=by simp [flat]
theorem flat_one (l:List S31): ∀u∈flat l,u.oneCell'=true:=by
 intro u hu
 obtain ⟨y,_,hy⟩:=List.mem_flatMap.1 hu
 simp only [shCells,List.mem_cons,List.not_mem_nil,or_false] at hy
 rcases hy with rfl|rfl|rfl|rfl|rfl|rfl|rfl|rfl|rfl|rfl|rfl|rfl<;>rfl
theorem flat_take (l:List S31) (i:Nat) (h:i≤l.length):(flat l).take (i*12)=flat (l.take i):=by
 have:=flat_append (l.take i) (l.drop i)
 rw [List.take_append_drop] at this
 rw [this]
 exact List.take_left' (by rw [flat_len,List.length_take];omega)
theorem flat_drop (l:List S31) (i:Nat) (h:i≤l.length):(flat l).drop (i*12)=flat (l.drop i):=by
 have:=flat_append (l.take i) (l.drop i)
 rw [List.take_append_drop] at this
 rw [this]
 exact List.drop_left' (by rw [flat_len,List.length_take];omega)
theorem flat_reps (w:World) (base:Nat) (ok:Nat→Prop): ∀l:List S31,Reps (k31.M w base ok) 12 l (flat l):=by
 intro l
 refine ⟨flat_len l,fun j p hj=> ?_⟩
 have hjl:j<l.length:=(List.getElem?_eq_some_iff.1 hj).1
 rw [flat_drop l j (by omega),List.drop_eq_getElem_cons hjl]
 show k31.M w base ok p ((shCells l[j]++flat (l.drop (j+1))).take 12)
 rw [show (12:Nat)=(shCells l[j]).length from rfl,List.take_left]
 obtain ⟨_,rfl⟩:=List.getElem?_eq_some_iff.1 hj
 exact k31_mkM w base ok _
theorem reps_flat {w:World} {base:Nat} {ok:Nat→Prop} {l:List S31} {cs:List Value} (h:Reps (k31.M w base ok) 12 l cs):cs=flat l:=by
  obtain ⟨hl,hr⟩:=h
  apply List.ext_getElem?
  intro q
  rcases Nat.lt_or_ge q cs.length with hq|hq
  rotate_left
  · rw [List.getElem?_eq_none hq,List.getElem?_eq_none (by rw [flat_len,←hl];exact hq)]
  have hj:q / 12<l.length:=by rw [hl] at hq;omega
  have h1:=k31_open (k31.K_of_M (hr (q / 12) _ (List.getElem?_eq_getElem hj)))
  have h2:=k31_open (k31.K_of_M ((flat_reps w base ok l).2 (q / 12) _ (List.getElem?_eq_getElem hj)))
  have h3:=congrArg (·[q % 12]?) (h1.trans h2.symm)
  simp only [List.getElem?_take,List.getElem?_drop,if_pos (show q % 12<12 by omega)] at h3
  rwa [show q / 12*12+q % 12=q by omega] at h3
theorem R_cells {w:World} {base g n c:Nat} {ok:Nat→Prop} {l:List S31} (h:Kd.R k31 31 w base ok (.slice (some ⟨g,0,none⟩) n c) l):
    n=l.length∧base≤g∧n≤c∧c≤9223372036854775807∧ ∃cur,w.heap[g]?=some (.cells cur 31 (0,0))∧cur.size=c*12∧cur.toList.take (l.length*12)=flat l:=by
  obtain ⟨_,inner,⟨_,h|⟨g',cap',cur,hv,hg,hh,hnc,hcm,hcs,ht⟩⟩,hr⟩:=h
  · cases h.1
  cases hv
  have:=reps_flat hr
  subst this
  exact ⟨rfl,hg,hnc,hcm,cur,hh,hcs,ht⟩
theorem R_of_cells {w:World} {base g c:Nat} {l:List S31} {cur:Array Value} (hg:base≤g) (hnc:l.length≤c) (hcm:c≤9223372036854775807) (hh:w.heap[g]?=some (.cells cur 31 (0,0))) (hcs:cur.size=c*12) (ht:cur.toList.take (l.length*12)=flat l):
  Kd.R k31 31 w base (fun _=>True) (.slice (some ⟨g,0,none⟩) l.length c) l:=
 ⟨fun _ _=>trivial,flat l,⟨flat_len l, .inr ⟨g,c,cur,rfl,hg,hh,hnc,hcm,hcs,ht⟩⟩,flat_reps _ _ _ l⟩
theorem Below.setCells_ {a w:World} {base g:Nat} (h:Below base a w) (hg:base≤g) (o:Nat) (vs:List Value):Below base a (w.setCells g o vs):=by
 obtain ⟨s1,s2,s3,s4⟩:=setCells_same g vs o w
 exact ⟨s1.trans h.os,s2.trans h.tape,s3.trans h.output,by rw [s4];exact h.size,fun k hk=>(setCells_far vs o k (by omega)).trans (h.block k hk)⟩
theorem plain_there {w:World} {g:Nat} {cur:Array Value} {e:Nat} (h:w.heap[g]?=some (.cells cur e (0,0))) {j:Nat} (hj:j<cur.size):(w.cell? ⟨g,j,none⟩).isSome=true:=by
 rw [blk_cell h j,Array.getElem?_eq_getElem hj]
 rfl
theorem plain_cell {w:World} {g:Nat} {cur:Array Value} {e:Nat} (h:w.heap[g]?=some (.cells cur e (0,0))) {j:Nat} {v:Value} (hj:cur.toList[j]?=some v):w.cell? ⟨g,j,none⟩=some v:=by
 rw [blk_cell h j,←hj,Array.getElem?_toList]
theorem older_zero {l r:List S31} {j:Int} (h:olderF l j=some (0,r)):0≤j∧j<(l.length:Int):=by
  unfold olderF at h
  split at h
  · assumption
  cases h
theorem older_len {l r:List S31} {j e:Int} (h:olderF l j=some (e,r)):r.length=l.length:=by
  unfold olderF at h
  split at h
  rotate_left
  · cases h
  split at h
  · cases h;rfl
  cases h;simp
theorem sh_cells' {base:Nat} {w:World} {g c n:Nat} {l:List S31} (h:Kd.R k31 31 w base (fun _=>True) (.slice (some ⟨g,0,none⟩) n c) l) (hn:l.length=n) (j:Int) (h0:0≤j) (h1:j<(n:Int)):
  ∀j' u,(shCells (rd_T31 l j))[j']?=some u→w.cell? ⟨g,j.toNat*12+j',none⟩=some u:=by
 subst hn
 exact sh_cells h j h0 h1
theorem R_turned {α:Type} {d:Kd α} {e base base0:Nat} {w w1:World} {u v:Value} {xs:List α} {l:List S31} (h:d.R e w base0 (fun _=>True) u xs) (hv:Kd.R k31 31 w base (fun _=>True) v l) (ht: ∀q,q∈e::d.E→q≠31) (hT:Turned w w1 base v):d.R e w1 base0 (fun _=>True) u xs:=by
  have hcase:v.ownBlock=none∨ ∃g cells,v.ownBlock=some g∧w.heap[g]?=some (.cells cells 31 (0,0)):=by
    cases hb:v.ownBlock with
    |none=>exact .inl rfl
    | some g =>
      obtain ⟨inner,ho⟩:=Kd.R_own hv
      obtain ⟨cells,hc⟩:=own_typed ho g hb
      exact .inr ⟨g,cells,rfl,hc⟩
  rcases hcase with hn|⟨g,cells,hb,hc⟩
  · refine Kd.R_step h (fun k _ hk => ?_)
    rw [Array.getElem?_eq_getElem hk]
    exact hT.block k _ (Array.getElem?_eq_getElem hk) (by rw [hn];simp)
  refine Kd.R_mono (Kd.R_step (Kd.R_types h hc ht) (fun k hk hlt=> ?_)) (fun _ _=>trivial)
  rw [Array.getElem?_eq_getElem hlt]
  exact hT.block k _ (Array.getElem?_eq_getElem hlt) (by rw [hb];intro q;exact hk.2 (Option.some.inj q))
theorem Turned.trans_ {W w1 w2:World} {base:Nat} {v:Value} (h:Turned W w1 base v) (k:Turned w1 w2 base v):Turned W w2 base v:=⟨h.below.trans k.below,fun b o hk hn=>k.block b o (h.block b o hk hn) hn⟩
theorem Turned.below_ {W w1 w2:World} {base:Nat} {v:Value} (h:Turned W w1 base v) (hb:base≤w1.heap.size) (k:Below w1.heap.size w1 w2):Turned W w2 base v:=h.trans_ (Turned.of_below k hb)
theorem Turned.grown_ {W w1 w2:World} {base g n c:Nat} (h:Turned W w1 base (.slice (some ⟨g,0,none⟩) n c)) (hb:base≤w1.heap.size) (hg0:base≤g) (hg:w1.grownBy w2 (some g)):Turned W w2 base (.slice (some ⟨g,0,none⟩) n c):=
 h.trans_ (Turned.then_grown (Turned.of_below (Below.refl _ _) hb) hb hg0 hg)
def shSub (op:S27→S27) (y:S31):S31:=⟨y.f0,y.f1,y.f2,y.f3,op y.f4,y.f5⟩
def shiftF (op:S27→S27):List ByteArray→List S31→Option (List S31)
 |[],out=>some out
 |s::us,out=>(tree_Find.f out s).bind fun j=>if 0≤j∧j<(out.length:Int) then shiftF op us (out.set j.toNat (shSub op (rd_T31 out j))) else none
end Go.Proofs.Ytcgefpklljclgaa.Print

namespace Go.Proofs.Ytcgefpklljclgaa.Print
open Go.RowKit Go.Proofs.YtcgefpklljclgaaW.PrintWords Go.Proofs.YtcgefpklljclgaaW.PrintLast Go.Proofs.YtcgefpklljclgaaW.PrintMore
attribute [local go_sem] max2_int min2_int max_two min_two max_three min_three max_four min_four

set_option maxHeartbeats 8000000 in
set_option maxRecDepth 100000 in
theorem shapeShift_calls (g:Nat) (lb:Array Value) (op:S27→S27) (gS:Nat) (ob:Obj) (base bu:Nat) (v:Value) (out r:List S31) (j0:Int) (Au:Option Addr) (cu:Nat) (us:List ByteArray) (w:World)
    (eg: ∀args w,(callFunc g args).run Try.prog w= .ok (.enter g args) w) (hr:Kd.R k31 31 w base (fun _=>True) v out) (hbase:base≤w.heap.size) (hs:w.heap[gS]?=some ob) (hne:some gS≠v.ownBlock)
    (hu:Kd.R Kd.string 9 w bu (fun _=>True) (.slice Au us.length cu) us)
    (hp: ∀W' u,W'.heap[gS]?=some ob→Calls Try.prog g (#[.agg #[.int .i64 u.f0, .int .i64 u.f1, .int .i64 u.f2]]++lb) W' fun e w'=>e= .returned (.agg #[.int .i64 (op u).f0, .int .i64 (op u).f1, .int .i64 (op u).f2])∧Below W'.heap.size W' w')
    (h:shiftF op us out=some r):
    Calls Try.prog 144 #[.agg #[v, .int .i64 j0], .slice Au us.length cu, .func (.func g) #[] lb] w fun e w'=>e= .returned (.tuple #[])∧Kd.R k31 31 w' base (fun _=>True) v r∧Turned w w' base v:=by
  have hu168:=Try.underlying168
  have hu166:=Try.underlying166
  have hu31:=Try.underlying31
  have hu27:=Try.underlying27
  have hm:us.length≤9223372036854775807:=(Kd.R_reads' hu).2.2.2.1
  have hm2:out.length≤9223372036854775807:=by obtain ⟨A,c,rfl,_,hh⟩:=Kd.R_reads hr;exact hh.2.1
  have HO:=Aside0.mk hr
  have HU:=Aside0.mk hu
  have HP:=Aside0.mk hp
  have HS:=Aside0.mk hs
  have HF:=Aside0.mk h
  have HNE:=Aside0.mk hne
  have HB:=am_ (Below.refl w.heap.size w)
  have HBS:=Aside0.mk hbase
  have HLT:=am_ (Kd.R_lt hr)
  obtain ⟨A5,c5,rfl⟩: ∃A5 c5,v= .slice A5 out.length c5:=Kd.R_slice hr
  clear hr hu hp hs hne h hbase
  obtain ⟨n,hn⟩: ∃n,n=out.length:=⟨_,rfl⟩
  rw [←hn] at HO HNE HLT hm2 ⊢
  have HN:=Aside0.mk hn.symm
  clear hn
  go_enter Try.func144,Try.ntmps144
  go_wp2_with (first|((with_reducible refine gate_dst (N:=3) rfl ?_);refine bx_ (N:=3) (cs:=#[.slice A5 n c5, .int .i64 j0]) (t:=168) ?_;intro gb3 hg w1 hbox hb;replace HO:=am_ (Kd.R_below HO.out hb);replace HU:=am_ (Kd.R_below HU.out hb);replace HS:=am_ (blk_below HS.out hb);have BK3:=am_ (hbox);have GE3:=am_ ((by rw [hg];exact below_size HB.out:w.heap.size≤gb3));replace HB:=am_ (below_step HB.out hb);have EQ3:=am_ (hg);clear hb hbox hg;have cgb3_0:=(blk_cell BK3.out 0).trans rfl;have cgb3_1:=(blk_cell BK3.out 1).trans rfl))
  have NE3:=am_ (show some gb3≠(Value.slice A5 n c5).ownBlock from fun e=>by have:=HLT.out _ e.symm;have:=EQ3.out;omega)
  have HT:=am_ (Turned.of_below (base:=base) (v:= .slice A5 n c5) HB.out HBS.out)
  clear HB GE3 EQ3
  go_loopg [7,8,11] us.length (fun kq s7 s8 s11 wr=> ∃(i:Nat) (cur:List S31),i≤us.length∧us.length - i≤kq∧s11= .int .i64 i∧Aside0 (cur.length=n)∧Aside0 (shiftF op (us.drop i) cur=some r)∧Aside0 (Turned w wr base (.slice A5 n c5))∧Aside0 (wr.heap[gb3]?=some (.cells #[.slice A5 n c5, .int .i64 j0] 168 (0,0)))∧Aside0 (wr.heap[gS]?=some ob)∧Aside0 (Kd.R k31 31 wr base (fun _=>True) (.slice A5 n c5) cur)∧Aside0 (Kd.R Kd.string 9 wr bu (fun _=>True) (.slice Au us.length cu) us))
  case atStart=>exact ⟨0,out,by omega,by omega,rfl,HN,HF,HT,BK3,HS,HO,HU⟩
  case round=>
    clear HO BK3 HT HF HS HU HN cgb3_0 cgb3_1
    obtain ⟨i,cur,hi,hg,rfl,HN,HF,HT,BK3,HS,HO,HU⟩:=hrel
    have cgb3_0:=(blk_cell BK3.out 0).trans rfl
    have cgb3_1:=(blk_cell BK3.out 1).trans rfl
    by_cases hlt:i<us.length
    rotate_left
    · obtain rfl : i = us.length := by omega
      have hf:=HF.out
      rw [List.drop_length] at hf
      cases hf
      go_wp2_with fail
      first|go_end0|refine bodyPost_end (results_none rfl _ _ _) rfl ?_
      exact ⟨rfl,HO.out,HT.out⟩


    have hltz:(i:Int)<(us.length:Int):=by omega
    have hdr:us.drop i=us[i]::us.drop (i+1):=List.drop_eq_getElem_cons hlt
    have hf:=HF.out
    rw [hdr] at hf
    unfold shiftF at hf
    obtain ⟨j,hj,hf2⟩:=Option.bind_eq_some_iff.1 hf
    split at hf2
    case isFalse=>cases hf2
    case isTrue hjb=>
    obtain ⟨hj0,hj1⟩:=hjb
    have hst:rdOf ByteArray.empty us (i:Int)=us[i]:=by simp [rdOf,hlt]
    rw [←hst] at hj
    obtain ⟨ad,e1,h0⟩:=at_str (Kd.R_reads' HU.out).2.2 (i:Int) (by omega) (by omega)
    cases e1
    simp only [Int.toNat_natCast] at h0
    obtain ⟨gb,cap,hv5,hgb,hgl⟩:=sh_head HO.out (by omega)
    rw [HN.out] at hv5
    cases hv5
    have hcs:=sh_cells' HO.out HN.out j hj0 (by rw [HN.out] at hj1;exact hj1)
    have HJ:=Aside0.mk hj
    have HF2:=Aside0.mk hf2
    have HJ0:=Aside0.mk hj0
    have HJ1:=am_ (show j<(n:Int) from by rw [HN.out] at hj1;exact hj1)
    generalize hy:rd_T31 cur j=y at hcs
    have HY:=Aside0.mk hy
    have HCS:=Aside0.mk hcs
    have HGB:=Aside0.mk hgb
    have HGL:=Aside0.mk hgl
    have HB0:=am_ (Below.refl wr.heap.size wr)
    have q0:(0≤j)=True:=eq_true hj0
    have q1:(j<(n:Int))=True:=eq_true HJ1.out
    have hB0:Below wr.heap.size wr wr:=Below.refl _ _
    have hBd:Below wr.heap.size wr wr.drew:=below_drew hB0
    clear hf hf2 hdr hst hcs hy hgb hgl hj hj0 hj1 HF
    go_wp2_with fail
    go_region_held3 (fun w'=>w'.cell? ⟨gb3,0,none⟩=some (.slice (some ⟨gb,0,none⟩) n c5)∧Below wr.heap.size wr w')
      (first|(go_keep;done)|(go_split_ands;refine ⟨?_, ?_⟩<;>first|exact below_step (by assumption) hb|exact pw_cell_below hb (by first|assumption|(go_keep;done))))
      (first|(go_at_call 71;refine calls_of_args (args':=#[.slice (some ⟨gb,0,none⟩) cur.length c5, .string (rdOf ByteArray.empty us i)]) (by rw [HN.out]) ((tree_Find.calls _ _ cur _ j _ (Kd.R_reads' (HN.out▸Kd.R_below HO.out (by first|assumption|(go_split_ands;assumption)))).2.2 (by have:=(Kd.R_reads' HO.out).2.1;rw [HN.out];exact this) HJ.out).mono ?_);rintro e w' ⟨rfl,hb⟩))
    rename_i hHeld
    have hBz:Below wr.heap.size wr w':=hHeld.2
    clear hHeld hB0 hBd cgb3_0 cgb3_1 h0
    (try clear hb)
    have HT4:=am_ (HT.out.below_ (Nat.le_trans HBS.out HT.out.below.size) hBz)
    have BK4:=am_ (blk_below BK3.out hBz)
    have HS4:=am_ (blk_below HS.out hBz)
    have HO4:=am_ (Kd.R_below HO.out hBz)
    have HU4:=am_ (Kd.R_below HU.out hBz)
    have HGL4:=am_ (Nat.lt_of_lt_of_le HGL.out hBz.size)
    have HCS4:=am_ (fun j' u hu=>(hBz.cell (p:=⟨gb,j.toNat*12+j',none⟩) HGL.out).trans (HCS.out j' u hu))
    clear hBz HT BK3 HS HO HU HGL HCS
    have k8:w'.cell? ⟨gb,j.toNat*12+8,none⟩=some (.int .i64 y.f4.f0):=HCS4.out 8 _ rfl
    have k9:w'.cell? ⟨gb,j.toNat*12+8+1,none⟩=some (.int .i64 y.f4.f1):=HCS4.out 9 _ rfl
    have k10:w'.cell? ⟨gb,j.toNat*12+8+2,none⟩=some (.int .i64 y.f4.f2):=HCS4.out 10 _ rfl
    go_wp2_with fail
    refine (HP.out w' y.f4 HS4.out).mono ?_
    rintro e w4 ⟨rfl,hb⟩
    have HT5:=am_ (HT4.out.below_ (Nat.le_trans HBS.out HT4.out.below.size) hb)
    have BK5:=am_ (blk_below BK4.out hb)
    have HS5:=am_ (blk_below HS4.out hb)
    have HO5:=am_ (Kd.R_below HO4.out hb)
    have HU5:=am_ (Kd.R_below HU4.out hb)
    have HCS5:=am_ (fun j' u hu=>(hb.cell (p:=⟨gb,j.toNat*12+j',none⟩) HGL4.out).trans (HCS4.out j' u hu))
    clear hb HT4 BK4 HS4 HO4 HU4 HCS4 k8 k9 k10
    clear eg
    go_wp2_with ((with_reducible refine gate_store (t:=27) (p:=32) (v:= .tmp 30) rfl ?_);refine Kd.R_store k31 (w0:=w4) base rfl rfl 27 (.tmp 32) (.tmp 30) rfl 31 (g:=gb) (n:=n) (cap:=c5) (o':=j.toNat*12+8) j 8 cur (shSub op y) (.agg #[.int .i64 (op y.f4).f0, .int .i64 (op y.f4).f1, .int .i64 (op y.f4).f2]) [.int .i64 (op y.f4).f0, .int .i64 (op y.f4).f1, .int .i64 (op y.f4).f2] (shCells y) (fun _=>True) (fun _=>False) rfl rfl rfl rfl ?ct ?c1 HO5.out ?c2 ?c3 rfl HCS5.out (by show 8+3≤12;omega) ?cM (fun _ h=>h.elim) (Below.refl _ _) ?_;(case ct=>kernel_rfl);(case c1=>intro q hq;simp only [List.mem_cons,List.not_mem_nil,or_false] at hq;rcases hq with rfl|rfl|rfl<;>rfl);(case c2=>exact HJ0.out);(case c3=>exact HJ1.out);(case cM=>exact k31_mkM _ _ _ (shSub op y));intro w5 ho hb hg;have HO6:=Aside0.mk ho;have HG6:=Aside0.mk hg;clear ho hb hg)
    have HT6:=am_ (HT5.out.grown_ (Nat.le_trans HBS.out HT5.out.below.size) HGB.out HG6.out)
    have BK6:=am_ (blk_put_other BK5.out HG6.out (fun e=>NE3.out (by rw [e];rfl)))
    have HS6:=am_ (blk_put_other HS5.out HG6.out (fun e=>HNE.out (by rw [e];rfl)))
    have HU6:=am_ (R_turned HU5.out HO5.out (by decide) ((Turned.of_below (Below.refl _ _) (Nat.le_trans HBS.out HT5.out.below.size)).then_grown (Nat.le_trans HBS.out HT5.out.below.size) HGB.out HG6.out))
    go_roundg (us.length - (i+1))
    case measure=>omega
    case rel=>
      refine ⟨i+1,cur.set j.toNat (shSub op y),by omega,by omega,by go_num,⟨by rw [List.length_set];exact HN.out⟩,⟨?_⟩,HT6,BK6,HS6,HO6,HU6⟩
      have:=HF2.out
      rw [HY.out] at this
      exact this
def mvAdd (v u:S27):S27:=⟨((vec_Add.f [u,v]).getD (0,0,0)).1,((vec_Add.f [u,v]).getD (0,0,0)).2.1,((vec_Add.f [u,v]).getD (0,0,0)).2.2⟩
def mvSub (v u:S27):S27:=⟨wrap64 (u.f0 - v.f0),wrap64 (u.f1 - v.f1),wrap64 (u.f2 - v.f2)⟩
set_option maxHeartbeats 1000000 in
set_option maxRecDepth 100000 in
theorem shMove2_calls (W:World) (b:Nat) (v u:S27) (hb:W.heap[b]?=some (.cells #[.int .i64 v.f0, .int .i64 v.f1, .int .i64 v.f2] 27 (0,0))):
  Calls Try.prog 146 #[.agg #[.int .i64 u.f0, .int .i64 u.f1, .int .i64 u.f2], .pointer (some ⟨b,0,none⟩)] W fun e w'=>e= .returned (.agg #[.int .i64 (mvAdd v u).f0, .int .i64 (mvAdd v u).f1, .int .i64 (mvAdd v u).f2])∧Below W.heap.size W w':=by
 have hu27:=Try.underlying27
 obtain ⟨⟨q1,q2,q3⟩,hq⟩: ∃q:Int×Int×Int,vec_Add.f [u,v]=some q:=⟨_,rfl⟩
 rw [show mvAdd v u=⟨q1,q2,q3⟩ from by unfold mvAdd;rw [hq];rfl]
 have HQ:=Aside0.mk hq
 clear hq
 have h0:=(blk_cell hb 0).trans rfl
 have h01:=(blk_cell hb 1).trans rfl
 have h02:=(blk_cell hb 2).trans rfl
 have hl:b<W.heap.size:=blk_lt hb
 clear hb
 go_enter Try.func146,Try.ntmps146
 go_wp2_with fail
 obtain ⟨w3,hw3⟩: ∃w3,w3=(W.alloc (.cells #[.int .i64 u.f0, .int .i64 u.f1, .int .i64 u.f2] 27)).alloc (.cells #[.int .i64 0, .int .i64 0, .int .i64 0] 27):=⟨_,rfl⟩
 have hs3:w3.heap.size=W.heap.size+1+1:=by rw [hw3];simp
 have hz3:w3.heap[W.heap.size+1]?=some (.cells #[.int .i64 0, .int .i64 0, .int .i64 0] 27 (0,0)):=by rw [hw3];have:=blk_new (W.alloc (.cells #[.int .i64 u.f0, .int .i64 u.f1, .int .i64 u.f2] 27)) (.cells #[.int .i64 0, .int .i64 0, .int .i64 0] 27);simpa using this
 have hb3:Below W.heap.size W w3:=by rw [hw3];exact below_alloc (below_alloc (Below.refl _ _) _) _
 rw [←hw3,←hs3]
 clear hw3
 have hn:=blk_new w3 (.cells #[.int .i64 u.f0, .int .i64 u.f1, .int .i64 u.f2, .int .i64 v.f0, .int .i64 v.f1, .int .i64 v.f2] 27)
 refine (vec_Add.calls (some ⟨_,0,none⟩) 2 [u,v] q1 q2 q3 _ (vec_two_row u v hn) (Nat.le_refl _) HQ.out).mono ?_
 rintro e w1 ⟨rfl,hb⟩
 have HB:=am_ (below_step (below_step hb3 (below_alloc (Below.refl _ _) _)) hb)
 have HZ:=am_ (blk_below (blk_alloc hz3 (.cells #[.int .i64 u.f0, .int .i64 u.f1, .int .i64 u.f2, .int .i64 v.f0, .int .i64 v.f1, .int .i64 v.f2] 27)) hb)
 have HS3:=Aside0.mk hs3
 clear hb hn hb3 hz3 hs3 h0 h01 h02
 have g0:=(blk_cell HZ.out 0).trans rfl
 have g1:=(blk_cell HZ.out 1).trans rfl
 have g2:=(blk_cell HZ.out 2).trans rfl
 have z0:=blk_frozen HZ.out 0
 have z1:=blk_frozen HZ.out 1
 have z2:=blk_frozen HZ.out 2
 have hs1:W.heap.size+1<w1.heap.size:=blk_lt HZ.out
 go_wp2
 refine bodyPost_ret (results_cell_row rfl _ _ (W.heap.size+1) 27 #[.int .i64 q1, .int .i64 q2, .int .i64 q3] (0,0) _ rfl (blk_put (blk_put (blk_put HZ.out 0 _ rfl) 1 _ rfl) 2 _ rfl) Try.underlying27 rfl (by kernel_rfl)) rfl ?_
 have hle:W.heap.size≤W.heap.size+1:=by omega
 exact ⟨rfl,below_set (below_set (below_set HB.out hle) hle) hle⟩
set_option maxHeartbeats 1000000 in
set_option maxRecDepth 100000 in
theorem shMove1_calls (W:World) (b:Nat) (v u:S27) (hb:W.heap[b]?=some (.cells #[.int .i64 v.f0, .int .i64 v.f1, .int .i64 v.f2] 27 (0,0))):
  Calls Try.prog 145 #[.agg #[.int .i64 u.f0, .int .i64 u.f1, .int .i64 u.f2], .pointer (some ⟨b,0,none⟩)] W fun e w'=>e= .returned (.agg #[.int .i64 (mvSub v u).f0, .int .i64 (mvSub v u).f1, .int .i64 (mvSub v u).f2])∧Below W.heap.size W w':=by
 have hu27:=Try.underlying27
 obtain ⟨⟨q1,q2,q3⟩,hq⟩: ∃q:Int×Int×Int,vec_Sub.f u.f0 u.f1 u.f2 v.f0 v.f1 v.f2=some q:=⟨_,rfl⟩
 rw [show mvSub v u=⟨q1,q2,q3⟩ from by have:=Option.some.inj hq;cases this;rfl]
 have HQ:=Aside0.mk hq
 clear hq
 have h0:=(blk_cell hb 0).trans rfl
 have h01:=(blk_cell hb 1).trans rfl
 have h02:=(blk_cell hb 2).trans rfl
 have hl:b<W.heap.size:=blk_lt hb
 clear hb
 go_enter Try.func145,Try.ntmps145
 go_wp2_with fail
 obtain ⟨w3,hw3⟩: ∃w3,w3=(W.alloc (.cells #[.int .i64 u.f0, .int .i64 u.f1, .int .i64 u.f2] 27)).alloc (.cells #[.int .i64 0, .int .i64 0, .int .i64 0] 27):=⟨_,rfl⟩
 have hs3:w3.heap.size=W.heap.size+1+1:=by rw [hw3];simp
 have hz3:w3.heap[W.heap.size+1]?=some (.cells #[.int .i64 0, .int .i64 0, .int .i64 0] 27 (0,0)):=by rw [hw3];have:=blk_new (W.alloc (.cells #[.int .i64 u.f0, .int .i64 u.f1, .int .i64 u.f2] 27)) (.cells #[.int .i64 0, .int .i64 0, .int .i64 0] 27);simpa using this
 have hb3:Below W.heap.size W w3:=by rw [hw3];exact below_alloc (below_alloc (Below.refl _ _) _) _
 rw [←hw3]
 clear hw3
 refine (vec_Sub.calls u.f0 u.f1 u.f2 v.f0 v.f1 v.f2 q1 q2 q3 _ HQ.out).mono ?_
 rintro e w1 ⟨rfl,hb⟩
 have HB:=am_ (below_step hb3 hb)
 have HZ:=am_ (blk_below hz3 hb)
 have HS3:=Aside0.mk hs3
 clear hb hb3 hz3 hs3 h0 h01 h02
 have g0:=(blk_cell HZ.out 0).trans rfl
 have g1:=(blk_cell HZ.out 1).trans rfl
 have g2:=(blk_cell HZ.out 2).trans rfl
 have z0:=blk_frozen HZ.out 0
 have z1:=blk_frozen HZ.out 1
 have z2:=blk_frozen HZ.out 2
 have hs1:W.heap.size+1<w1.heap.size:=blk_lt HZ.out
 go_wp2
 refine bodyPost_ret (results_cell_row rfl _ _ (W.heap.size+1) 27 #[.int .i64 q1, .int .i64 q2, .int .i64 q3] (0,0) _ rfl (blk_put (blk_put (blk_put HZ.out 0 _ rfl) 1 _ rfl) 2 _ rfl) Try.underlying27 rfl (by kernel_rfl)) rfl ?_
 have hle:W.heap.size≤W.heap.size+1:=by omega
 exact ⟨rfl,below_set (below_set (below_set HB.out hle) hle) hle⟩
def fitsF (k:Nat) (l:List S31) (from_:List ByteArray) (sub:S27):List ByteArray→Option Bool
  |[]=>some true
  | s :: us => (tree_Find.f l s).bind fun j => if 0 ≤ j ∧ j < (l.length : Int) then (slices_Contains_string_string.f k from_ s).bind fun c => if c = true then fitsF k l from_ sub us else
      (vec_Le.f (mvAdd sub (rd_T31 l j).f4).f0 (mvAdd sub (rd_T31 l j).f4).f1 (mvAdd sub (rd_T31 l j).f4).f2 (rd_T31 l j).f2.f0 (rd_T31 l j).f2.f1 (rd_T31 l j).f2.f2).bind fun b=>if b=true then fitsF k l from_ sub us else some false else none
theorem fitsF_mono (l:List S31) (from_:List ByteArray) (sub:S27) (k:Nat): ∀us,LeO (fitsF k l from_ sub us) (fitsF (k+1) l from_ sub us)
  |[]=>LeO.refl _
  | s :: us => by
    unfold fitsF
    refine LeO.bind (LeO.refl _) (fun j=>LeO.ite (LeO.bind (slices_Contains_string_string.mono _ _ _) (fun c=>LeO.ite (fitsF_mono l from_ sub k us) (LeO.bind (LeO.refl _) (fun b=>LeO.ite (fitsF_mono l from_ sub k us) (LeO.refl _))))) (LeO.refl _))
def parF (p:ByteArray) (y:S31):S31:=⟨y.f0,p,y.f2,y.f3,y.f4,y.f5⟩
theorem shiftF_len (op:S27→S27): ∀(us:List ByteArray) (l r:List S31),shiftF op us l=some r→r.length=l.length
  |[],l,r,h=>by cases h;rfl
  | s :: us, l, r, h => by
    unfold shiftF at h
    obtain ⟨j,_,h1⟩:=Option.bind_eq_some_iff.1 h
    split at h1
    · have := shiftF_len op us _ r h1
      rwa [List.length_set] at this
    cases h1
def shape_Move.f (k:Nat) (l0:List (S31)) (a1:ByteArray) (a2:ByteArray) (a3:Int):Option ((List (S31))×Int):=
 (shape_made.f l0 a1).bind fun p=>(guardF p.1 p.2 a3).bind fun e=>if e≠0 then some ([],e) else (tree_Up.f k l0 a2).bind fun ts=>(shape_change_parent.f p.1 p.2 a2).bind fun q=>if q=false then some ([],2) else
  (slices_Contains_string_string.f k ts a1).bind fun c=>if c=true then some ([],10) else (olderF p.1 p.2).bind fun o=>if o.1≠0 then some ([],o.1) else
   (tree_Up.f k l0 (rd_T31 o.2 p.2).f1).bind fun fs=>(fitsF k l0 fs (rd_T31 o.2 p.2).f4 ts).bind fun b=>if b=false then some ([],12) else
    (shiftF (mvSub (rd_T31 o.2 p.2).f4) fs o.2).bind fun l3=>(shiftF (mvAdd (rd_T31 o.2 p.2).f4) ts l3).bind fun l4=>some (l4.set p.2.toNat (parF a2 (rd_T31 l4 p.2)),0)
theorem shape_Move.mono: ∀a0 a1 a2 a3 k,LeO (shape_Move.f k a0 a1 a2 a3) (shape_Move.f (k+1) a0 a1 a2 a3):=by
 intro a0 a1 a2 a3 k
 unfold shape_Move.f
 repeat' first
  |(with_reducible exact tree_Up.mono _ _ _)
  |(with_reducible exact slices_Contains_string_string.mono _ _ _)
  |(with_reducible exact fitsF_mono _ _ _ _ _)
  |(with_reducible exact LeO.refl _)
  |(with_reducible exact LeO.none _)
  |(with_reducible refine LeO.ite ?_ ?_)
  |(with_reducible refine LeO.bind ?_ (fun _=> ?_))
set_option maxHeartbeats 8000000 in
set_option maxRecDepth 100000 in
theorem shape_Move.calls (k:Nat) (A0:Option Addr) (c0:Nat) (l0:List (S31)) (a1:ByteArray) (a2:ByteArray) (a3:Int) (r1:List (S31)) (r2:Int) (w:World) (hr0:Kd.C k31 w A0 l0.length l0) (hc0:l0.length≤c0) (h:shape_Move.f k l0 a1 a2 a3=some (r1,r2)):
    Calls Try.prog 88 #[.slice A0 l0.length c0, .string a1, .string a2, .int .i64 a3] w fun e w'=> ∃v0_:Value,e= .returned (.tuple #[v0_, .int .i64 r2])∧Kd.R k31 31 w' w.heap.size (fun _=>True) v0_ r1∧Below w.heap.size w w':=by
  have hu168:=Try.underlying168
  have hu166:=Try.underlying166
  have hu31:=Try.underlying31
  have hu27:=Try.underlying27
  unfold shape_Move.f at h
  obtain ⟨⟨out,j⟩,hmd,h1⟩:=Option.bind_eq_some_iff.1 h
  clear h
  obtain ⟨e0,hgd,h2⟩:=Option.bind_eq_some_iff.1 h1
  clear h1
  dsimp only at hgd h2
  have HR:=Aside0.mk hr0
  have HC:=Aside0.mk hc0
  have HM:=Aside0.mk hmd
  have HG:=Aside0.mk hgd
  have HB:=am_ (Below.refl w.heap.size w)
  have HH:=Aside0.mk h2
  clear hr0 hc0 hmd hgd h2
  go_enter Try.func88,Try.ntmps88
  go_wp2_with fail
  refine (shape_made.calls _ _ _ _ _ _ _ (Kd.C_below HR.out HB.out) HC.out HM.out).mono ?_
  rintro e w3 ⟨v0,rfl,ho,hb⟩
  have HO:=am_ (Kd.R_lower ho (below_size HB.out))
  replace HB:=am_ (below_step HB.out hb)
  clear ho hb
  obtain ⟨A5,c5,rfl⟩: ∃A5 c5,v0= .slice A5 out.length c5:=Kd.R_slice HO.out
  have HLT:=am_ (Kd.R_lt HO.out)
  go_wp2_with (first|((with_reducible refine gate_dst (N:=10) rfl ?_);refine bx_ (N:=10) (cs:=#[.slice none 0 0, .int .i64 0]) (t:=168) ?_;intro gb2 hg w4 hbox hb;replace HO:=am_ (Kd.R_below HO.out hb);have BK2:=am_ (hbox);have GE2:=am_ ((by rw [hg];exact below_size HB.out:w.heap.size≤gb2));replace HB:=am_ (below_step HB.out hb);have EQ2:=am_ (hg);clear hb hbox hg)|((with_reducible refine gate_store (t:=168) (p:=10) (v:= .tmp 21) rfl ?_);refine store_all BK2.out 168 (.tmp 10) (.tmp 21) rfl rfl rfl (.agg #[.slice A5 out.length c5, .int .i64 j]) [.slice A5 out.length c5, .int .i64 j] rfl rfl rfl (by kernel_rfl) rfl (by intro q hq;simp only [List.mem_cons,List.not_mem_nil,or_false] at hq;rcases hq with rfl|rfl<;>rfl) ?_;intro w5 hbk hg;replace HO:=am_ (R_put HO.out BK2.out (by decide) hg);replace HB:=am_ (below_put HB.out (below_size HB.out) hg GE2.out);replace BK2:=am_ (hbk);clear hbk hg;have cgb2_0:=(blk_cell BK2.out 0).trans rfl;have cgb2_1:=(blk_cell BK2.out 1).trans rfl))
  have NE2:=am_ (show some gb2≠(Value.slice A5 out.length c5).ownBlock from fun e=>by have:=HLT.out _ e.symm;have:=EQ2.out;omega)
  refine (shapeGuard_calls _ _ _ out j a3 e0 HO.out HG.out).mono ?_
  rintro e w6 ⟨rfl,hb⟩
  clear cgb2_0 cgb2_1
  replace HO:=am_ (Kd.R_below HO.out hb);replace BK2:=am_ (blk_below BK2.out hb);replace HB:=am_ (below_step HB.out hb)
  clear hb
  have cgb2_0:=(blk_cell BK2.out 0).trans rfl
  have cgb2_1:=(blk_cell BK2.out 1).trans rfl
  have h2:=HH.out
  clear HH
  by_cases c1:e0=0
  rotate_left
  · rw [if_pos c1] at h2
    cases h2
    have q1:(r2==0)=false:=by simpa using c1
    go_wp2_with fail
    go_ret2
    exact ⟨_,rfl,Kd.R_nil _ _ _ _ _,HB.out⟩


  cases c1
  rw [if_neg (by simp)] at h2
  obtain ⟨ts,hts,h3⟩:=Option.bind_eq_some_iff.1 h2
  obtain ⟨q,hq,h4⟩:=Option.bind_eq_some_iff.1 h3
  clear h2 h3
  have HTS:=Aside0.mk hts
  have HQ:=Aside0.mk hq
  have HH:=Aside0.mk h4
  clear hts hq h4
  go_wp2_with fail
  refine (tree_Up.calls k _ _ _ _ _ _ (Kd.C_below HR.out HB.out) HC.out HTS.out).mono ?_
  rintro e w7 ⟨vt,rfl,hot,hb⟩
  clear cgb2_0 cgb2_1
  have HTO:=am_ (Kd.R_lower hot (below_size HB.out))
  replace HO:=am_ (Kd.R_below HO.out hb);replace BK2:=am_ (blk_below BK2.out hb);replace HB:=am_ (below_step HB.out hb)
  clear hb hot
  have cgb2_0:=(blk_cell BK2.out 0).trans rfl
  have cgb2_1:=(blk_cell BK2.out 1).trans rfl
  obtain ⟨At,ct,rfl⟩: ∃At ct,vt= .slice At ts.length ct:=Kd.R_slice HTO.out
  go_wp2_with fail
  refine (shape_change_parent.calls _ _ _ _ _ _ _ (Kd.R_reads' HO.out).2.2 (Kd.R_reads' HO.out).2.1 HQ.out).mono ?_
  rintro e w8 ⟨rfl,hb⟩
  clear cgb2_0 cgb2_1
  replace HO:=am_ (Kd.R_below HO.out hb);replace HTO:=am_ (Kd.R_below HTO.out hb);replace BK2:=am_ (blk_below BK2.out hb);replace HB:=am_ (below_step HB.out hb)
  clear hb
  have cgb2_0:=(blk_cell BK2.out 0).trans rfl
  have cgb2_1:=(blk_cell BK2.out 1).trans rfl
  have h4:=HH.out
  clear HH
  cases q with
  | false =>
    rw [if_pos rfl] at h4
    cases h4
    go_wp2_with fail
    go_ret2
    exact ⟨_,rfl,Kd.R_nil _ _ _ _ _,HB.out⟩
  | true =>
    rw [if_neg (by simp)] at h4
    obtain ⟨c,hc,h5⟩:=Option.bind_eq_some_iff.1 h4
    have HCO:=Aside0.mk hc
    have HH:=Aside0.mk h5
    clear hc h4 h5
    go_wp2_with fail
    refine (slices_Contains_string_string.calls k _ _ ts _ _ _ (Kd.R_reads' HTO.out).2.2 (Kd.R_reads' HTO.out).2.1 HCO.out).mono ?_
    rintro e w9 ⟨rfl,hd⟩
    have hb:=hd.below
    clear cgb2_0 cgb2_1 hd
    replace HO:=am_ (Kd.R_below HO.out hb);replace HTO:=am_ (Kd.R_below HTO.out hb);replace BK2:=am_ (blk_below BK2.out hb);replace HB:=am_ (below_step HB.out hb)
    clear hb
    have cgb2_0:=(blk_cell BK2.out 0).trans rfl
    have cgb2_1:=(blk_cell BK2.out 1).trans rfl
    have h5:=HH.out
    clear HH
    cases c with
    | true =>
      rw [if_pos rfl] at h5
      cases h5
      go_wp2_with fail
      go_ret2
      exact ⟨_,rfl,Kd.R_nil _ _ _ _ _,HB.out⟩
    | false =>
      rw [if_neg (by simp)] at h5
      obtain ⟨⟨e1,l2⟩,hol,h6⟩:=Option.bind_eq_some_iff.1 h5
      clear h5
      have HOL:=Aside0.mk hol
      have HH:=Aside0.mk h6
      clear hol h6
      go_wp2_with fail
      refine (shapeOlder_calls _ _ _ out l2 j e1 HO.out (below_size HB.out) HOL.out).mono ?_
      rintro e w10 ⟨rfl,ho,ht⟩
      clear cgb2_0 cgb2_1
      replace HTO:=am_ (R_turned HTO.out HO.out (by decide) ht);replace BK2:=am_ (ht.block _ _ BK2.out NE2.out);replace HB:=am_ (HB.out.trans ht.below);replace HO:=am_ (ho)
      clear ho ht
      have cgb2_0:=(blk_cell BK2.out 0).trans rfl
      have cgb2_1:=(blk_cell BK2.out 1).trans rfl
      have h6:=HH.out
      clear HH
      by_cases c2:e1=0
      rotate_left
      · rw [if_pos c2] at h6
        cases h6
        have q2:(r2==0)=false:=by simpa using c2
        go_wp2_with fail
        go_ret2
        exact ⟨_,rfl,Kd.R_nil _ _ _ _ _,HB.out⟩
      cases c2
      rw [if_neg (by simp)] at h6
      obtain ⟨hj0,hj1⟩:=older_zero HOL.out
      obtain ⟨gb,cap,hv0,hgb,hgl⟩:=sh_head HO.out (by have:=older_len HOL.out;omega)
      rw [older_len HOL.out] at hv0
      cases hv0
      have hcs:=sh_cells' HO.out (older_len HOL.out) j hj0 hj1
      have HJ0:=Aside0.mk hj0
      have HJ1:=Aside0.mk hj1
      have HGB:=Aside0.mk hgb
      have HGL:=Aside0.mk hgl
      have HLEN:=am_ (older_len HOL.out)
      generalize hy:rd_T31 l2 j=y at hcs h6
      have HY:=Aside0.mk hy
      obtain ⟨fs,hfs,h7⟩:=Option.bind_eq_some_iff.1 h6
      clear h6
      have HFS:=Aside0.mk hfs
      have HH:=Aside0.mk h7
      have HCS:=Aside0.mk hcs
      clear hj0 hj1 hgb hgl hy hfs h7 hcs
      go_wp2_with fail
      refine (shapeItem_calls _ ⟨gb,0,none⟩ out.length c5 j HJ0.out HJ1.out).mono ?_
      rintro e w11 ⟨rfl,hb⟩
      clear cgb2_0 cgb2_1
      have HCS1:=am_ (fun j' u hu=>(hb.cell (p:=⟨gb,j.toNat*12+j',none⟩) HGL.out).trans (HCS.out j' u hu))
      have HGL1:=am_ (Nat.lt_of_lt_of_le HGL.out hb.size)
      replace HO:=am_ (Kd.R_below HO.out hb);replace HTO:=am_ (Kd.R_below HTO.out hb);replace BK2:=am_ (blk_below BK2.out hb);replace HB:=am_ (below_step HB.out hb)
      clear hb HCS HGL
      have cgb2_0:=(blk_cell BK2.out 0).trans rfl
      have cgb2_1:=(blk_cell BK2.out 1).trans rfl
      have k1:w11.cell? ⟨gb,j.toNat*12+1,none⟩=some (.string y.f1):=HCS1.out 1 _ rfl
      go_wp2_with fail
      clear k1
      refine (tree_Up.calls k _ _ _ _ _ _ (Kd.C_below HR.out HB.out) HC.out HFS.out).mono ?_
      rintro e w12 ⟨vf,rfl,hof,hb⟩
      clear cgb2_0 cgb2_1
      have HFR:=am_ (Kd.R_lower hof (below_size HB.out))
      have HCS2:=am_ (fun j' u hu=>(hb.cell (p:=⟨gb,j.toNat*12+j',none⟩) HGL1.out).trans (HCS1.out j' u hu))
      have HGL2:=am_ (Nat.lt_of_lt_of_le HGL1.out hb.size)
      replace HO:=am_ (Kd.R_below HO.out hb);replace HTO:=am_ (Kd.R_below HTO.out hb);replace BK2:=am_ (blk_below BK2.out hb);replace HB:=am_ (below_step HB.out hb)
      clear hb hof HCS1 HGL1
      have cgb2_0:=(blk_cell BK2.out 0).trans rfl
      have cgb2_1:=(blk_cell BK2.out 1).trans rfl
      obtain ⟨Af,cf,rfl⟩: ∃Af cf,vf= .slice Af fs.length cf:=Kd.R_slice HFR.out
      go_wp2_with fail
      refine (shapeItem_calls _ ⟨gb,0,none⟩ out.length c5 j HJ0.out HJ1.out).mono ?_
      rintro e w13 ⟨rfl,hb⟩
      clear cgb2_0 cgb2_1
      have HCS3:=am_ (fun j' u hu=>(hb.cell (p:=⟨gb,j.toNat*12+j',none⟩) HGL2.out).trans (HCS2.out j' u hu))
      have HGL3:=am_ (Nat.lt_of_lt_of_le HGL2.out hb.size)
      replace HO:=am_ (Kd.R_below HO.out hb);replace HTO:=am_ (Kd.R_below HTO.out hb);replace HFR:=am_ (Kd.R_below HFR.out hb);replace BK2:=am_ (blk_below BK2.out hb);replace HB:=am_ (below_step HB.out hb)
      clear hb HCS2 HGL2
      have cgb2_0:=(blk_cell BK2.out 0).trans rfl
      have cgb2_1:=(blk_cell BK2.out 1).trans rfl
      have k8:w13.cell? ⟨gb,j.toNat*12+8,none⟩=some (.int .i64 y.f4.f0):=HCS3.out 8 _ rfl
      have k9:w13.cell? ⟨gb,j.toNat*12+8+1,none⟩=some (.int .i64 y.f4.f1):=HCS3.out 9 _ rfl
      have k10:w13.cell? ⟨gb,j.toNat*12+8+2,none⟩=some (.int .i64 y.f4.f2):=HCS3.out 10 _ rfl
      generalize hsb:y.f4=sb at k8 k9 k10
      have HSB:=Aside0.mk hsb
      have GB2:=am_ (blk_lt BK2.out)
      have hm:ts.length≤9223372036854775807:=(Kd.R_reads' HTO.out).2.2.2.1
      clear hsb
      have GLT15:=am_ (show gb<w13.heap.size from HGL3.out)
      go_wp2_with (first|((with_reducible refine gate_dst (N:=15) rfl ?_);refine bx_ (N:=15) (cs:=#[.int .i64 0, .int .i64 0, .int .i64 0]) (t:=27) ?_;intro gb15 hg wa hbox hb;replace HO:=am_ (Kd.R_below HO.out hb);replace HTO:=am_ (Kd.R_below HTO.out hb);replace HFR:=am_ (Kd.R_below HFR.out hb);replace BK2:=am_ (blk_below BK2.out hb);have BK15:=am_ (hbox);have GE15:=am_ ((by rw [hg];exact below_size HB.out:w.heap.size≤gb15));replace HB:=am_ (below_step HB.out hb);have EQ15:=am_ (hg);clear hb hbox hg)|((with_reducible refine gate_store (t:=27) (p:=15) (v:= .tmp 56) rfl ?_);refine store_all BK15.out 27 (.tmp 15) (.tmp 56) rfl rfl rfl (.agg #[.int .i64 sb.f0, .int .i64 sb.f1, .int .i64 sb.f2]) [.int .i64 sb.f0, .int .i64 sb.f1, .int .i64 sb.f2] rfl rfl rfl (by kernel_rfl) rfl (by intro q hq;simp only [List.mem_cons,List.not_mem_nil,or_false] at hq;rcases hq with rfl|rfl|rfl<;>rfl) ?_;intro wb hbk hg;replace HO:=am_ (R_put HO.out BK15.out (by decide) hg);replace HTO:=am_ (R_put HTO.out BK15.out (by decide) hg);replace HFR:=am_ (R_put HFR.out BK15.out (by decide) hg);replace BK2:=am_ (blk_put_other BK2.out hg (by have:=blk_lt BK2.out;have:=EQ15.out;have:=GB2.out;omega));replace HB:=am_ (below_put HB.out (below_size HB.out) hg GE15.out);replace BK15:=am_ (hbk);clear hbk hg;have cgb15_0:=(blk_cell BK15.out 0).trans rfl;have cgb15_1:=(blk_cell BK15.out 1).trans rfl;have cgb15_2:=(blk_cell BK15.out 2).trans rfl))
      have h7:=HH.out
      clear HH
      rw [HSB.out] at h7
      obtain ⟨bb,hfit,h8⟩:=Option.bind_eq_some_iff.1 h7
      clear h7
      have HFIT:=Aside0.mk hfit
      have HH:=Aside0.mk h8
      clear hfit h8 HCS3 HGL3 k8 k9 k10 GB2
      have NE2:=am_ (show gb2≠gb from fun e=>NE2.out (by rw [e];rfl))
      have NE15:=am_ (show gb15≠gb from fun e=>by have:=GLT15.out;have:=EQ15.out;omega)
      go_loopg [17,18,59] ts.length (fun kq s17 s18 s59 wr=> ∃i:Nat,i≤ts.length∧ts.length - i≤kq∧s59= .int .i64 i∧Aside0 (fitsF k l0 fs sb (ts.drop i)=some bb)∧Aside0 (Below w.heap.size w wr)∧Aside0 (wr.heap[gb2]?=some (.cells #[.slice (some ⟨gb,0,none⟩) out.length c5, .int .i64 j] 168 (0,0)))∧Aside0 (wr.heap[gb15]?=some (.cells #[.int .i64 sb.f0, .int .i64 sb.f1, .int .i64 sb.f2] 27 (0,0)))∧Aside0 (Kd.R k31 31 wr w.heap.size (fun _=>True) (.slice (some ⟨gb,0,none⟩) out.length c5) l2)∧Aside0 (Kd.R Kd.string 9 wr w.heap.size (fun _=>True) (.slice At ts.length ct) ts)∧Aside0 (Kd.R Kd.string 9 wr w.heap.size (fun _=>True) (.slice Af fs.length cf) fs))
      case atStart=>exact ⟨0,by omega,by omega,rfl,HFIT,HB,BK2,BK15,HO,HTO,HFR⟩
      case round=>
        clear HFIT HB BK2 BK15 HO HTO HFR cgb2_0 cgb2_1 cgb15_0 cgb15_1 cgb15_2
        obtain ⟨i,hi,hg,rfl,HFIT,HB,BK2,BK15,HO,HTO,HFR⟩:=hrel
        by_cases hlt:i<ts.length
        rotate_left
        · obtain rfl : i = ts.length := by omega
          have hf:=HFIT.out
          rw [List.drop_length] at hf
          cases hf
          have h8:=HH.out
          clear HH HFIT
          rw [if_neg (by simp)] at h8
          obtain ⟨l3,hs3,h9⟩:=Option.bind_eq_some_iff.1 h8
          obtain ⟨l4,hs4,h10⟩:=Option.bind_eq_some_iff.1 h9
          cases h10
          have HS3:=Aside0.mk hs3
          have HS4:=Aside0.mk hs4
          have cgb2_0:=(blk_cell BK2.out 0).trans rfl
          have cgb2_1:=(blk_cell BK2.out 1).trans rfl
          clear h8 h9 hs3 hs4
          go_wp2_with fail
          refine (shapeShift_calls 145 #[.pointer (some ⟨gb15,0,none⟩)] (mvSub sb) gb15 _ w.heap.size w.heap.size _ l2 l3 j Af cf fs _ (enters_of Try.func145 (by kernel_rfl) rfl) HO.out (below_size HB.out) BK15.out (fun e=>NE15.out (Option.some.inj e)) HFR.out (fun W' u hb=>shMove1_calls W' gb15 sb u hb) HS3.out).mono ?_
          rintro e ws1 ⟨rfl,ho,ht⟩
          clear cgb2_0 cgb2_1
          replace HTO:=am_ (R_turned HTO.out HO.out (by decide) ht);replace BK2:=am_ (ht.block _ _ BK2.out (fun e=>NE2.out (Option.some.inj e)));replace BK15:=am_ (ht.block _ _ BK15.out (fun e=>NE15.out (Option.some.inj e)));replace HB:=am_ (HB.out.trans ht.below);replace HO:=am_ (ho)
          clear ho ht HFR
          have cgb2_0:=(blk_cell BK2.out 0).trans rfl
          have cgb2_1:=(blk_cell BK2.out 1).trans rfl
          go_wp2_with fail
          refine (shapeShift_calls 146 #[.pointer (some ⟨gb15,0,none⟩)] (mvAdd sb) gb15 _ w.heap.size w.heap.size _ l3 l4 j At ct ts _ (enters_of Try.func146 (by kernel_rfl) rfl) HO.out (below_size HB.out) BK15.out (fun e=>NE15.out (Option.some.inj e)) HTO.out (fun W' u hb=>shMove2_calls W' gb15 sb u hb) HS4.out).mono ?_
          rintro e ws2 ⟨rfl,ho,ht⟩
          clear cgb2_0 cgb2_1
          replace BK2:=am_ (ht.block _ _ BK2.out (fun e=>NE2.out (Option.some.inj e)));replace HB:=am_ (HB.out.trans ht.below);replace HO:=am_ (ho)
          clear ho ht HTO BK15
          have cgb2_0:=(blk_cell BK2.out 0).trans rfl
          have cgb2_1:=(blk_cell BK2.out 1).trans rfl
          have hl4:l4.length=out.length:=by rw [shiftF_len _ _ _ _ HS4.out,shiftF_len _ _ _ _ HS3.out,HLEN.out]
          have hcs:=sh_cells' HO.out hl4 j HJ0.out HJ1.out
          generalize hyy:rd_T31 l4 j=yy at hcs
          have HYY:=Aside0.mk hyy
          have HCS:=Aside0.mk hcs
          have HGL:=am_ (show gb<ws2.heap.size from Kd.R_lt HO.out gb rfl)
          have HL4:=Aside0.mk hl4
          clear hcs hl4 hyy
          go_wp2_with fail
          refine (shapeItem_calls _ ⟨gb,0,none⟩ out.length c5 j HJ0.out HJ1.out).mono ?_
          rintro e ws3 ⟨rfl,hb⟩
          clear cgb2_0 cgb2_1
          have HCS1:=am_ (fun j' u hu=>(hb.cell (p:=⟨gb,j.toNat*12+j',none⟩) HGL.out).trans (HCS.out j' u hu))
          replace HO:=am_ (Kd.R_below HO.out hb);replace BK2:=am_ (blk_below BK2.out hb);replace HB:=am_ (below_step HB.out hb)
          clear hb HCS HGL
          have cgb2_0:=(blk_cell BK2.out 0).trans rfl
          have cgb2_1:=(blk_cell BK2.out 1).trans rfl
          go_wp2_with ((with_reducible refine gate_store (t:=9) (p:=97) (v:= .tmp 95) rfl ?_);refine Kd.R_store k31 (w0:=ws3) w.heap.size rfl rfl 9 (.tmp 97) (.tmp 95) rfl 31 (g:=gb) (n:=out.length) (cap:=c5) (o':=j.toNat*12+1) j 1 l4 (parF a2 yy) (.string a2) [.string a2] (shCells yy) (fun _=>True) (fun _=>False) rfl rfl rfl rfl ?ct ?c1 HO.out ?c2 ?c3 rfl HCS1.out (by show 1+1≤12;omega) ?cM (fun _ h=>h.elim) (Below.refl _ _) ?_;(case ct=>kernel_rfl);(case c1=>intro q hq;simp only [List.mem_cons,List.not_mem_nil,or_false] at hq;rcases hq with rfl;rfl);(case c2=>exact HJ0.out);(case c3=>exact HJ1.out);(case cM=>exact k31_mkM _ _ _ (parF a2 yy));intro ws4 ho hb hg;have HO9:=Aside0.mk ho;have HB9:=am_ (below_put HB.out (below_size HB.out) hg HGB.out);have BK9:=am_ (blk_put_other BK2.out hg NE2.out);clear cgb2_0 cgb2_1;have cgb2_0:=(blk_cell BK9.out 0).trans rfl;have cgb2_1:=(blk_cell BK9.out 1).trans rfl;clear ho hb hg)
          go_ret2
          refine ⟨_,rfl, ?_,HB9.out⟩
          show Kd.R k31 31 _ _ _ _ (l4.set j.toNat (parF a2 (rd_T31 l4 j)))
          rw [HYY.out]
          exact HO9.out
        have hltz:(i:Int)<(ts.length:Int):=by omega
        have hdr:ts.drop i=ts[i]::ts.drop (i+1):=List.drop_eq_getElem_cons hlt
        have hst:rdOf ByteArray.empty ts (i:Int)=ts[i]:=by simp [rdOf,hlt]
        have hf:=HFIT.out
        rw [hdr,←hst] at hf
        unfold fitsF at hf
        obtain ⟨jx,hjx,hf2⟩:=Option.bind_eq_some_iff.1 hf
        split at hf2
        case isFalse=>cases hf2
        case isTrue hjb=>
        obtain ⟨c,hcn,hf3⟩:=Option.bind_eq_some_iff.1 hf2
        obtain ⟨ad,e1,h0⟩:=at_str (Kd.R_reads' HTO.out).2.2 (i:Int) (by omega) (by omega)
        cases e1
        simp only [Int.toNat_natCast] at h0
        have HJX:=Aside0.mk hjx
        have HCN:=Aside0.mk hcn
        have HF3:=Aside0.mk hf3
        have HX0:=Aside0.mk hjb.1
        have HX1:=Aside0.mk hjb.2
        clear hdr hst hf hf2 hf3 hjx hcn HFIT hjb
        go_wp2_with fail
        refine (tree_Find.calls _ _ l0 _ jx _ (Kd.C_below HR.out HB.out) HC.out HJX.out).mono ?_
        rintro e wa1 ⟨rfl,hb⟩
        clear h0
        replace HO:=am_ (Kd.R_below HO.out hb);replace HTO:=am_ (Kd.R_below HTO.out hb);replace HFR:=am_ (Kd.R_below HFR.out hb);replace BK2:=am_ (blk_below BK2.out hb);replace BK15:=am_ (blk_below BK15.out hb);replace HB:=am_ (below_step HB.out hb)
        clear hb
        obtain ⟨adx,e1,k0,k1,k2,k3,k4,k5,k6,k7,k8,k9,k10,k11⟩:=at_T31 (Kd.C_below HR.out HB.out) jx HX0.out HX1.out
        cases e1
        have q0:(0≤jx)=True:=eq_true HX0.out
        have q1:(jx<(l0.length:Int))=True:=eq_true HX1.out
        have hf3:=HF3.out
        clear HF3
        generalize hx:rd_T31 l0 jx=x at k0 k1 k2 k3 k4 k5 k6 k7 k8 k9 k10 k11 hf3
        have HF3:=Aside0.mk hf3
        have LT2:=am_ (blk_lt BK2.out)
        have LT15:=am_ (blk_lt BK15.out)
        clear hx hf3
        have HO1:=am_ (Kd.R_mono (ok':=fun k_=>k_<wa1.heap.size) (Kd.R_bound HO.out) (fun _ hk=>hk.2.2.1))
        clear HO
        have HO:=HO1
        clear HO1
        go_wp2_with (first|((with_reducible refine gate_dst (N:=18) rfl ?_);refine bx_ (N:=18) (cs:=#[.string ⟨#[]⟩, .string ⟨#[]⟩, .int .i64 0, .int .i64 0, .int .i64 0, .int .i64 0, .int .i64 0, .int .i64 0, .int .i64 0, .int .i64 0, .int .i64 0, .int .i64 0]) (t:=31) ?_;intro gb18 hg we hbox hb;replace HO:=am_ (Kd.R_below HO.out hb);replace HTO:=am_ (Kd.R_below HTO.out hb);replace HFR:=am_ (Kd.R_below HFR.out hb);replace BK2:=am_ (blk_below BK2.out hb);replace BK15:=am_ (blk_below BK15.out hb);have BK18:=am_ (hbox);have GE18:=am_ ((by rw [hg];exact below_size HB.out:w.heap.size≤gb18));replace HB:=am_ (below_step HB.out hb);have EQ18:=am_ (hg);clear hb hbox hg)|((with_reducible refine gate_store (t:=31) (p:=18) (v:= .tmp 68) rfl ?_);refine store_all BK18.out 31 (.tmp 18) (.tmp 68) rfl rfl rfl (.agg #[.string x.f0, .string x.f1, .int .i64 x.f2.f0, .int .i64 x.f2.f1, .int .i64 x.f2.f2, .int .i64 x.f3.f0, .int .i64 x.f3.f1, .int .i64 x.f3.f2, .int .i64 x.f4.f0, .int .i64 x.f4.f1, .int .i64 x.f4.f2, .int .i64 x.f5]) [.string x.f0, .string x.f1, .int .i64 x.f2.f0, .int .i64 x.f2.f1, .int .i64 x.f2.f2, .int .i64 x.f3.f0, .int .i64 x.f3.f1, .int .i64 x.f3.f2, .int .i64 x.f4.f0, .int .i64 x.f4.f1, .int .i64 x.f4.f2, .int .i64 x.f5] rfl rfl rfl (by kernel_rfl) rfl (by intro q hq;simp only [List.mem_cons,List.not_mem_nil,or_false] at hq;rcases hq with rfl|rfl|rfl|rfl|rfl|rfl|rfl|rfl|rfl|rfl|rfl|rfl<;>rfl) ?_;intro wf hbk hg;replace HTO:=am_ (R_put HTO.out BK18.out (by decide) hg);replace HFR:=am_ (R_put HFR.out BK18.out (by decide) hg);replace BK2:=am_ (blk_put_other BK2.out hg (by have:=EQ18.out;have:=LT2.out;omega));replace BK15:=am_ (blk_put_other BK15.out hg (by have:=EQ18.out;have:=LT15.out;omega));replace HB:=am_ (below_put HB.out (below_size HB.out) hg GE18.out);replace HO:=am_ (Kd.R_mono (Kd.R_grown HO.out hg (fun k_ hk e=>by have:=EQ18.out;have:=Option.some.inj e;have:k_<wa1.heap.size:=hk;omega)) (fun _ _=>trivial));replace BK18:=am_ (hbk);clear hbk hg;have cgb18_0:=(blk_cell BK18.out 0).trans rfl;have cgb18_1:=(blk_cell BK18.out 1).trans rfl;have cgb18_2:=(blk_cell BK18.out 2).trans rfl;have cgb18_3:=(blk_cell BK18.out 3).trans rfl;have cgb18_4:=(blk_cell BK18.out 4).trans rfl;have cgb18_5:=(blk_cell BK18.out 5).trans rfl;have cgb18_6:=(blk_cell BK18.out 6).trans rfl;have cgb18_7:=(blk_cell BK18.out 7).trans rfl;have cgb18_8:=(blk_cell BK18.out 8).trans rfl;have cgb18_9:=(blk_cell BK18.out 9).trans rfl;have cgb18_10:=(blk_cell BK18.out 10).trans rfl;have cgb18_11:=(blk_cell BK18.out 11).trans rfl))
        clear k0 k1 k2 k3 k4 k5 k6 k7 k8 k9 k10 k11
        have cgb15_0:=(blk_cell BK15.out 0).trans rfl
        have cgb15_1:=(blk_cell BK15.out 1).trans rfl
        have cgb15_2:=(blk_cell BK15.out 2).trans rfl
        have hf3:=HF3.out
        clear HF3
        cases c with
        | true =>
          rw [if_pos rfl] at hf3
          have HF4:=Aside0.mk hf3
          clear hf3
          refine start_ (n:=15) (S:=fun w'=>w'.cell? ⟨gb18,2,none⟩=some (.int .i64 x.f2.f0)∧w'.cell? ⟨gb18,3,none⟩=some (.int .i64 x.f2.f1)∧w'.cell? ⟨gb18,4,none⟩=some (.int .i64 x.f2.f2)∧w'.cell? ⟨gb18,8,none⟩=some (.int .i64 x.f4.f0)∧w'.cell? ⟨gb18,9,none⟩=some (.int .i64 x.f4.f1)∧w'.cell? ⟨gb18,10,none⟩=some (.int .i64 x.f4.f2)∧w'.cell? ⟨gb15,0,none⟩=some (.int .i64 sb.f0)∧w'.cell? ⟨gb15,1,none⟩=some (.int .i64 sb.f1)∧w'.cell? ⟨gb15,2,none⟩=some (.int .i64 sb.f2)∧Below wf.heap.size wf w') (ds:=[]) (bt_ 15 0) (by kernel_rfl) rfl rfl ⟨cgb18_2,cgb18_3,cgb18_4,cgb18_8,cgb18_9,cgb18_10,cgb15_0,cgb15_1,cgb15_2,below_drew (Below.refl _ _)⟩ (fun hHeld=> ?_)
          refine pv_ (i:=0) (N:=some 69) (bt_ 15 1) ?_
          refine pv_ (i:=1) (N:=some 70) (bt_ 15 3) ?_
          refine one_ (i:=2) (N:=some 71) (bt_ 15 7) rfl rfl (by kernel_rfl) (by decide) (fun K hK=> ?_)
          refine goes_ Try.func131 (by kernel_rfl) rfl #[.slice Af fs.length cf, .string (rdOf ByteArray.empty ts i)] (by rfl) rfl rfl (by (try simp only [List.map_toArray,List.map_cons,List.map_nil]);rfl) ?_
          refine (slices_Contains_string_string.calls k _ _ fs _ _ _ (Kd.R_reads' (Kd.R_below HFR.out (hHeld.2.2.2.2.2.2.2.2.2))).2.2 (Kd.R_reads' HFR.out).2.1 HCN.out).mono ?_
          rintro e wd ⟨rfl,hd⟩
          have hb:=hd.below
          refine ⟨_,rfl, ?_⟩
          refine hK.out _ _ ⟨zh_ hb hHeld.1,zh_ hb hHeld.2.1,zh_ hb hHeld.2.2.1,zh_ hb hHeld.2.2.2.1,zh_ hb hHeld.2.2.2.2.1,zh_ hb hHeld.2.2.2.2.2.1,zh_ hb hHeld.2.2.2.2.2.2.1,zh_ hb hHeld.2.2.2.2.2.2.2.1,zh_ hb hHeld.2.2.2.2.2.2.2.2.1,below_step hHeld.2.2.2.2.2.2.2.2.2 hb⟩ (fun hHeld=> ?_)
          clear hK K hb hd
          refine norm_ (a':= ?_) ?_ ?_
          rotate_left
          · show Act.put _ (some 71) _ = _
            simp only [Act.put,List.setIfInBounds_toArray,List.set_cons_zero,List.set_cons_succ,i64_w,i32_w]
            rfl
          refine pv_ (i:=3) (N:=some 72) (bt_ 15 15) ?_
          refine pv_ (i:=4) (N:=some 73) (bt_ 15 31) ?_
          refine take_ (i:=5) (N:=some 74) (v:=undef) (a':= ?_) (bt_ 15 63) rfl rfl (by kernel_rfl) (fun _ _ _ h=>h) (Or.inr ⟨by rfl,rfl⟩) hHeld ?_ ?_;rotate_left;(simp only [Act.put,List.setIfInBounds_toArray,List.set_cons_zero,List.set_cons_succ,i64_w,i32_w];rfl)
          refine take_ (i:=6) (N:=some 75) (v:=undef) (a':= ?_) (bt_ 15 127) rfl rfl (by kernel_rfl) (fun _ _ _ h=>h) (Or.inr ⟨by rfl,rfl⟩) hHeld ?_ ?_;rotate_left;(simp only [Act.put,List.setIfInBounds_toArray,List.set_cons_zero,List.set_cons_succ,i64_w,i32_w];rfl)
          refine take_ (i:=7) (N:=some 76) (v:=undef) (a':= ?_) (bt_ 15 255) rfl rfl (by kernel_rfl) (fun _ _ _ h=>h) (Or.inr ⟨by rfl,rfl⟩) hHeld ?_ ?_;rotate_left;(simp only [Act.put,List.setIfInBounds_toArray,List.set_cons_zero,List.set_cons_succ,i64_w,i32_w];rfl)
          refine take_ (i:=8) (N:=some 77) (v:=undef) (a':= ?_) (bt_ 15 511) rfl rfl (by kernel_rfl) (fun _ _ _ h=>h) (Or.inr ⟨by rfl,rfl⟩) hHeld ?_ ?_;rotate_left;(simp only [Act.put,List.setIfInBounds_toArray,List.set_cons_zero,List.set_cons_succ,i64_w,i32_w];rfl)
          refine take_ (i:=9) (N:=some 78) (v:=undef) (a':= ?_) (bt_ 15 1023) rfl rfl (by kernel_rfl) (fun _ _ _ h=>h) (Or.inr ⟨by rfl,rfl⟩) hHeld ?_ ?_;rotate_left;(simp only [Act.put,List.setIfInBounds_toArray,List.set_cons_zero,List.set_cons_succ,i64_w,i32_w];rfl)
          refine take_ (i:=10) (N:=some 79) (v:=undef) (a':= ?_) (bt_ 15 2047) rfl rfl (by kernel_rfl) (fun _ _ _ h=>h) (Or.inr ⟨by rfl,rfl⟩) hHeld ?_ ?_;rotate_left;(simp only [Act.put,List.setIfInBounds_toArray,List.set_cons_zero,List.set_cons_succ,i64_w,i32_w];rfl)
          refine take_ (i:=11) (N:=some 80) (v:=undef) (a':= ?_) (bt_ 15 4095) rfl rfl (by kernel_rfl) (fun _ _ _ h=>h) (Or.inr ⟨by rfl,rfl⟩) hHeld ?_ ?_;rotate_left;(simp only [Act.put,List.setIfInBounds_toArray,List.set_cons_zero,List.set_cons_succ,i64_w,i32_w];rfl)
          refine take_ (i:=12) (N:=some 81) (v:=undef) (a':= ?_) (bt_ 15 8191) rfl rfl (by kernel_rfl) (fun _ _ _ h=>h) (Or.inr ⟨by rfl,rfl⟩) hHeld ?_ ?_;rotate_left;(simp only [Act.put,List.setIfInBounds_toArray,List.set_cons_zero,List.set_cons_succ,i64_w,i32_w];rfl)
          refine take_ (i:=13) (N:=some 82) (v:=undef) (a':= ?_) (bt_ 15 16383) rfl rfl (by kernel_rfl) (fun _ _ _ h=>h) (Or.inr ⟨by rfl,rfl⟩) hHeld ?_ ?_;rotate_left;(simp only [Act.put,List.setIfInBounds_toArray,List.set_cons_zero,List.set_cons_succ,i64_w,i32_w];rfl)
          refine pv_ (i:=14) (N:=some 83) (bt_ 15 32767) ?_
          refine done_ (by kernel_rfl) ?_
          have hBz:Below wf.heap.size wf wd:=hHeld.2.2.2.2.2.2.2.2.2
          clear hHeld
          replace HO:=am_ (Kd.R_below HO.out hBz);replace HTO:=am_ (Kd.R_below HTO.out hBz);replace HFR:=am_ (Kd.R_below HFR.out hBz);replace BK2:=am_ (blk_below BK2.out hBz);replace BK15:=am_ (blk_below BK15.out hBz);replace HB:=am_ (below_step HB.out hBz)
          clear hBz
          go_wp2_with fail
          go_roundg (ts.length - (i+1))
          case measure=>omega
          case rel=>exact ⟨i+1,by omega,by omega,by go_num,HF4,HB,BK2,BK15,HO,HTO,HFR⟩
        | false =>
          rw [if_neg (by simp)] at hf3
          obtain ⟨b,hle,hf4⟩:=Option.bind_eq_some_iff.1 hf3
          obtain ⟨⟨q1,q2,q3⟩,hqv⟩: ∃q:Int×Int×Int,vec_Add.f [x.f4,sb]=some q:=⟨_,rfl⟩
          rw [show mvAdd sb x.f4=⟨q1,q2,q3⟩ from by unfold mvAdd;rw [hqv];rfl] at hle
          have HQV:=Aside0.mk hqv
          have HLE:=Aside0.mk hle
          have HF4:=Aside0.mk hf4
          clear hf3 hle hf4 hqv
          refine start_ (n:=15) (S:=fun w'=>w'.cell? ⟨gb18,2,none⟩=some (.int .i64 x.f2.f0)∧w'.cell? ⟨gb18,3,none⟩=some (.int .i64 x.f2.f1)∧w'.cell? ⟨gb18,4,none⟩=some (.int .i64 x.f2.f2)∧w'.cell? ⟨gb18,8,none⟩=some (.int .i64 x.f4.f0)∧w'.cell? ⟨gb18,9,none⟩=some (.int .i64 x.f4.f1)∧w'.cell? ⟨gb18,10,none⟩=some (.int .i64 x.f4.f2)∧w'.cell? ⟨gb15,0,none⟩=some (.int .i64 sb.f0)∧w'.cell? ⟨gb15,1,none⟩=some (.int .i64 sb.f1)∧w'.cell? ⟨gb15,2,none⟩=some (.int .i64 sb.f2)∧Below wf.heap.size wf w') (ds:=[]) (bt_ 15 0) (by kernel_rfl) rfl rfl ⟨cgb18_2,cgb18_3,cgb18_4,cgb18_8,cgb18_9,cgb18_10,cgb15_0,cgb15_1,cgb15_2,below_drew (Below.refl _ _)⟩ (fun hHeld=> ?_)
          refine pv_ (i:=0) (N:=some 69) (bt_ 15 1) ?_
          refine pv_ (i:=1) (N:=some 70) (bt_ 15 3) ?_
          refine one_ (i:=2) (N:=some 71) (bt_ 15 7) rfl rfl (by kernel_rfl) (by decide) (fun K hK=> ?_)
          refine goes_ Try.func131 (by kernel_rfl) rfl #[.slice Af fs.length cf, .string (rdOf ByteArray.empty ts i)] (by rfl) rfl rfl (by (try simp only [List.map_toArray,List.map_cons,List.map_nil]);rfl) ?_
          refine (slices_Contains_string_string.calls k _ _ fs _ _ _ (Kd.R_reads' (Kd.R_below HFR.out (hHeld.2.2.2.2.2.2.2.2.2))).2.2 (Kd.R_reads' HFR.out).2.1 HCN.out).mono ?_
          rintro e wd ⟨rfl,hd⟩
          have hb:=hd.below
          refine ⟨_,rfl, ?_⟩
          refine hK.out _ _ ⟨zh_ hb hHeld.1,zh_ hb hHeld.2.1,zh_ hb hHeld.2.2.1,zh_ hb hHeld.2.2.2.1,zh_ hb hHeld.2.2.2.2.1,zh_ hb hHeld.2.2.2.2.2.1,zh_ hb hHeld.2.2.2.2.2.2.1,zh_ hb hHeld.2.2.2.2.2.2.2.1,zh_ hb hHeld.2.2.2.2.2.2.2.2.1,below_step hHeld.2.2.2.2.2.2.2.2.2 hb⟩ (fun hHeld=> ?_)
          clear hK K hb hd
          refine norm_ (a':= ?_) ?_ ?_
          rotate_left
          · show Act.put _ (some 71) _ = _
            simp only [Act.put,List.setIfInBounds_toArray,List.set_cons_zero,List.set_cons_succ,i64_w,i32_w]
            rfl
          refine pv_ (i:=3) (N:=some 72) (bt_ 15 15) ?_
          refine pv_ (i:=4) (N:=some 73) (bt_ 15 31) ?_
          refine pv_ (i:=5) (N:=some 74) (bt_ 15 63) ?_
          refine tv_ (i:=6) (N:=some 75) (bt_ 15 127) hHeld ?_
          refine tv_ (i:=7) (N:=some 76) (bt_ 15 255) hHeld ?_
          refine pv_ (i:=10) (N:=some 79) (bt_ 15 1279) ?_
          refine tv_ (i:=11) (N:=some 80) (bt_ 15 3327) hHeld ?_
          refine one_ (i:=8) (N:=some 77) (bt_ 15 3583) rfl rfl (by kernel_rfl) (by decide) (fun K hK=> ?_)
          obtain ⟨wz,hwz⟩: ∃wz,wz=wd.alloc (.cells #[.int .i64 x.f4.f0, .int .i64 x.f4.f1, .int .i64 x.f4.f2, .int .i64 sb.f0, .int .i64 sb.f1, .int .i64 sb.f2] 27):=⟨_,rfl⟩
          refine value_ (v:= .slice (some ⟨wd.heap.size,0,none⟩) 2 2) (w1:=wz) (by rfl) rfl (by rw [hwz];first|(go_simp;done)|(go_simp;rfl)) ?_
          have hb:Below wd.heap.size wd wz:=by rw [hwz];exact below_alloc (Below.refl _ _) _
          have BKV:=am_ (show wz.heap[wd.heap.size]?=some (.cells #[.int .i64 x.f4.f0, .int .i64 x.f4.f1, .int .i64 x.f4.f2, .int .i64 sb.f0, .int .i64 sb.f1, .int .i64 sb.f2] 27 (0,0)) from by rw [hwz];exact blk_new _ _)
          clear hwz
          refine hK.out _ _ ⟨zh_ hb hHeld.1,zh_ hb hHeld.2.1,zh_ hb hHeld.2.2.1,zh_ hb hHeld.2.2.2.1,zh_ hb hHeld.2.2.2.2.1,zh_ hb hHeld.2.2.2.2.2.1,zh_ hb hHeld.2.2.2.2.2.2.1,zh_ hb hHeld.2.2.2.2.2.2.2.1,zh_ hb hHeld.2.2.2.2.2.2.2.2.1,below_step hHeld.2.2.2.2.2.2.2.2.2 hb⟩ (fun hHeld=> ?_)
          clear hK K hb
          refine norm_ (a':= ?_) ?_ ?_
          rotate_left
          · show Act.put _ (some 77) _ = _
            simp only [Act.put,List.setIfInBounds_toArray,List.set_cons_zero,List.set_cons_succ,i64_w,i32_w]
            rfl
          refine one_ (i:=9) (N:=some 78) (bt_ 15 4095) rfl rfl (by kernel_rfl) (by decide) (fun K hK=> ?_)
          refine goes_ Try.func119 (by kernel_rfl) rfl #[.slice (some ⟨wd.heap.size,0,none⟩) 2 2] (by rfl) rfl rfl (by (try simp only [List.map_toArray,List.map_cons,List.map_nil]);rfl) ?_
          refine (vec_Add.calls (some ⟨_,0,none⟩) 2 [x.f4,sb] q1 q2 q3 _ (vec_two_row x.f4 sb BKV.out) (Nat.le_refl _) HQV.out).mono ?_
          rintro e wy ⟨rfl,hb⟩
          refine ⟨_,rfl, ?_⟩
          refine hK.out _ _ ⟨zh_ hb hHeld.1,zh_ hb hHeld.2.1,zh_ hb hHeld.2.2.1,zh_ hb hHeld.2.2.2.1,zh_ hb hHeld.2.2.2.2.1,zh_ hb hHeld.2.2.2.2.2.1,zh_ hb hHeld.2.2.2.2.2.2.1,zh_ hb hHeld.2.2.2.2.2.2.2.1,zh_ hb hHeld.2.2.2.2.2.2.2.2.1,below_step hHeld.2.2.2.2.2.2.2.2.2 hb⟩ (fun hHeld=> ?_)
          clear hK K hb BKV
          refine norm_ (a':= ?_) ?_ ?_
          rotate_left
          · show Act.put _ (some 78) _ = _
            simp only [Act.put,List.setIfInBounds_toArray,List.set_cons_zero,List.set_cons_succ,i64_w,i32_w]
            rfl
          refine one_ (i:=12) (N:=some 81) (bt_ 15 8191) rfl rfl (by kernel_rfl) (by decide) (fun K hK=> ?_)
          refine goes_ Try.func118 (by kernel_rfl) rfl #[.agg #[.int .i64 q1, .int .i64 q2, .int .i64 q3], .agg #[.int .i64 x.f2.f0, .int .i64 x.f2.f1, .int .i64 x.f2.f2]] (by rfl) rfl rfl (by (try simp only [List.map_toArray,List.map_cons,List.map_nil]);rfl) ?_
          refine (vec_Le.calls _ _ _ _ _ _ _ _ HLE.out).mono ?_
          rintro e wx ⟨rfl,hb⟩
          refine ⟨_,rfl, ?_⟩
          refine hK.out _ _ ⟨zh_ hb hHeld.1,zh_ hb hHeld.2.1,zh_ hb hHeld.2.2.1,zh_ hb hHeld.2.2.2.1,zh_ hb hHeld.2.2.2.2.1,zh_ hb hHeld.2.2.2.2.2.1,zh_ hb hHeld.2.2.2.2.2.2.1,zh_ hb hHeld.2.2.2.2.2.2.2.1,zh_ hb hHeld.2.2.2.2.2.2.2.2.1,below_step hHeld.2.2.2.2.2.2.2.2.2 hb⟩ (fun hHeld=> ?_)
          clear hK K hb
          refine norm_ (a':= ?_) ?_ ?_
          rotate_left
          · show Act.put _ (some 81) _ = _
            simp only [Act.put,List.setIfInBounds_toArray,List.set_cons_zero,List.set_cons_succ,i64_w,i32_w]
            rfl
          refine pv_ (i:=13) (N:=some 82) (bt_ 15 16383) ?_
          refine pv_ (i:=14) (N:=some 83) (bt_ 15 32767) ?_
          refine done_ (by kernel_rfl) ?_
          have hBz:Below wf.heap.size wf wx:=hHeld.2.2.2.2.2.2.2.2.2
          clear hHeld
          replace HO:=am_ (Kd.R_below HO.out hBz);replace HTO:=am_ (Kd.R_below HTO.out hBz);replace HFR:=am_ (Kd.R_below HFR.out hBz);replace BK2:=am_ (blk_below BK2.out hBz);replace BK15:=am_ (blk_below BK15.out hBz);replace HB:=am_ (below_step HB.out hBz)
          clear hBz
          have hf4:=HF4.out
          clear HF4
          cases b with
          | true =>
            rw [if_pos rfl] at hf4
            have HF4:=Aside0.mk hf4
            clear hf4
            go_wp2_with fail
            go_roundg (ts.length - (i+1))
            case measure=>omega
            case rel=>exact ⟨i+1,by omega,by omega,by go_num,HF4,HB,BK2,BK15,HO,HTO,HFR⟩
          | false =>
            rw [if_neg (by simp)] at hf4
            cases hf4
            have h8:=HH.out
            rw [if_pos rfl] at h8
            cases h8
            go_wp2_with fail
            go_ret2
            exact ⟨_,rfl,Kd.R_nil _ _ _ _ _,HB.out⟩
def r10_unit.f (a0:Int):Option (Bool):=if a0≥0 then (some (decide (a0≤1099511627776))) else (some false)
set_option maxHeartbeats 8000000 in
set_option maxRecDepth 100000 in
theorem r10_unit.calls (a0:Int) (r:Bool) (w:World) (h:r10_unit.f a0=some r):
  Calls Try.prog 123 #[.int .i64 a0] w fun e w'=>e= .returned (.bool r)∧Drawn0 w w':=by
 have H:(if a0≥0 then (some (decide (a0≤1099511627776))) else (some false))=some r:=h
 clear h
 by_cases c2:a0≥0
 ·rw [if_pos c2] at H
  have c2b0:decide (0≤a0)=true:=decide_eq_true c2
  clear c2
  obtain rfl:=Option.some.inj H
  go_enter Try.func123,Try.ntmps123
  go_wp2
  go_ret
  exact ⟨by first|rfl|(simp;done)|(simp [*];done),by repeat (first|exact Drawn0.refl _|apply Drawn0.step)⟩
 rw [if_neg c2] at H
 have c2b0:decide (0≤a0)=false:=decide_eq_false c2
 clear c2
 obtain rfl:=Option.some.inj H
 go_enter Try.func123,Try.ntmps123
 go_wp2
 go_ret
 exact ⟨by first|rfl|(simp;done)|(simp [*];done),by repeat (first|exact Drawn0.refl _|apply Drawn0.step)⟩

def r10_MayVec.f (a0_0:Int) (a0_1:Int) (a0_2:Int):Option (Bool):=(r10_unit.f a0_0).bind fun t2=>(if t2=true then ((r10_unit.f a0_1).bind fun t3=>(if t3=true then ((r10_unit.f a0_2).bind fun t4=>(some t4)) else (some false))) else (some false))
set_option maxHeartbeats 8000000 in
set_option maxRecDepth 100000 in
theorem r10_MayVec.calls (a0_0:Int) (a0_1:Int) (a0_2:Int) (r:Bool) (w:World) (h:r10_MayVec.f a0_0 a0_1 a0_2=some r):
  Calls Try.prog 65 #[.agg #[.int .i64 a0_0, .int .i64 a0_1, .int .i64 a0_2]] w fun e w'=>e= .returned (.bool r)∧Below w.heap.size w w':=by
 have hu27:=Try.underlying27
 have HB:=am_ (Below.refl w.heap.size w)
 have H:((r10_unit.f a0_0).bind fun t2=>(if t2=true then ((r10_unit.f a0_1).bind fun t3=>(if t3=true then ((r10_unit.f a0_2).bind fun t4=>(some t4)) else (some false))) else (some false)))=some r:=h
 clear h
 replace H:=Option.bind_eq_some_iff.mp H
 obtain ⟨t2,A20,H⟩:=H
 try dsimp only at H
 have A2:=Aside0.mk A20
 clear A20
 by_cases c3:t2=true
 rotate_left
 ·replace c3:=Bool.eq_false_iff.mpr c3
  subst c3
  have H1:(some false)=some r:=by rw [if_neg (show¬(false=true) by decide)] at H;exact H
  clear H
  have H:=H1
  clear H1
  obtain rfl:=Option.some.inj H
  go_enter Try.func65,Try.ntmps65
  go_wp2_with (first|((with_reducible refine gate_dst (N:=1) rfl ?_);refine bx_ (N:=1) (cs:=#[.int .i64 a0_0, .int .i64 a0_1, .int .i64 a0_2]) (t:=27) ?_;intro gb1 hg w11 hbox hb;have BK1:=am_ (hbox);have GW1:=am_ ((zg0_ HB hg:w.heap.size≤gb1));have GE1:=am_ ((zg0_ HB hg:w.heap.size≤gb1));replace HB:=am_ (below_step (zl0_ HB) hb);clear hb hbox hg;obtain ⟨hcz12_0,hcz12_1,hcz12_2⟩:=x3_ BK1;have hfz12_0:=blk_frozen BK1.out 0;have hfz12_1:=blk_frozen BK1.out 1;have hfz12_2:=blk_frozen BK1.out 2)|((with_reducible refine gate_callee (f:=123) rfl ?_);refine gl_ (some 5) Try.func123 #[.int .i64 a0_0] ?_;(with_reducible refine (r10_unit.calls a0_0 false _ A2.out).mono ?_);rintro e w' ⟨rfl,⟨nd,rfl⟩⟩;refine ⟨_,rfl, ?_⟩))
  go_ret
  exact ⟨by first|rfl|(simp [errW_none,errW_some]<;>rfl)|(simp [*,errW_none,errW_some]<;>rfl),zl1_ HB GE1⟩

 subst c3
 have H1:((r10_unit.f a0_1).bind fun t3=>(if t3=true then ((r10_unit.f a0_2).bind fun t4=>(some t4)) else (some false)))=some r:=by rw [if_pos rfl] at H;exact H
 clear H
 have H:=H1
 clear H1
 replace H:=Option.bind_eq_some_iff.mp H
 obtain ⟨t3,A40,H⟩:=H
 try dsimp only at H
 have A4:=Aside0.mk A40
 clear A40
 by_cases c5:t3=true
 rotate_left
 ·replace c5:=Bool.eq_false_iff.mpr c5
  subst c5
  have H1:(some false)=some r:=by rw [if_neg (show¬(false=true) by decide)] at H;exact H
  clear H
  have H:=H1
  clear H1
  obtain rfl:=Option.some.inj H
  go_enter Try.func65,Try.ntmps65
  go_wp2_with (first|((with_reducible refine gate_dst (N:=1) rfl ?_);refine bx_ (N:=1) (cs:=#[.int .i64 a0_0, .int .i64 a0_1, .int .i64 a0_2]) (t:=27) ?_;intro gb1 hg w9 hbox hb;have BK1:=am_ (hbox);have GW1:=am_ ((zg0_ HB hg:w.heap.size≤gb1));have GE1:=am_ ((zg0_ HB hg:w.heap.size≤gb1));replace HB:=am_ (below_step (zl0_ HB) hb);clear hb hbox hg;obtain ⟨hcz10_0,hcz10_1,hcz10_2⟩:=x3_ BK1;have hfz10_0:=blk_frozen BK1.out 0;have hfz10_1:=blk_frozen BK1.out 1;have hfz10_2:=blk_frozen BK1.out 2)|((with_reducible refine gate_callee (f:=123) rfl ?_);refine gl_ (some 5) Try.func123 #[.int .i64 a0_0] ?_;(with_reducible refine (r10_unit.calls a0_0 true _ A2.out).mono ?_);rintro e w' ⟨rfl,⟨nd,rfl⟩⟩;refine ⟨_,rfl, ?_⟩)|(go_at_call 123;(with_reducible refine (r10_unit.calls a0_1 false _ A4.out).mono ?_);rintro e w' ⟨rfl,⟨nd,rfl⟩⟩))
  go_ret
  exact ⟨by first|rfl|(simp [errW_none,errW_some]<;>rfl)|(simp [*,errW_none,errW_some]<;>rfl),zl1_ HB GE1⟩
 subst c5
 have H1:((r10_unit.f a0_2).bind fun t4=>(some t4))=some r:=by rw [if_pos rfl] at H;exact H
 clear H
 have H:=H1
 clear H1
 replace H:=Option.bind_eq_some_iff.mp H
 obtain ⟨t4,A60,H⟩:=H
 try dsimp only at H
 have A6:=Aside0.mk A60
 clear A60
 obtain rfl:=Option.some.inj H
 go_enter Try.func65,Try.ntmps65
 go_wp2_with (first|((with_reducible refine gate_dst (N:=1) rfl ?_);refine bx_ (N:=1) (cs:=#[.int .i64 a0_0, .int .i64 a0_1, .int .i64 a0_2]) (t:=27) ?_;intro gb1 hg w7 hbox hb;have BK1:=am_ (hbox);have GW1:=am_ ((zg0_ HB hg:w.heap.size≤gb1));have GE1:=am_ ((zg0_ HB hg:w.heap.size≤gb1));replace HB:=am_ (below_step (zl0_ HB) hb);clear hb hbox hg;obtain ⟨hcz8_0,hcz8_1,hcz8_2⟩:=x3_ BK1;have hfz8_0:=blk_frozen BK1.out 0;have hfz8_1:=blk_frozen BK1.out 1;have hfz8_2:=blk_frozen BK1.out 2)|((with_reducible refine gate_callee (f:=123) rfl ?_);refine gl_ (some 5) Try.func123 #[.int .i64 a0_0] ?_;(with_reducible refine (r10_unit.calls a0_0 true _ A2.out).mono ?_);rintro e w' ⟨rfl,⟨nd,rfl⟩⟩;refine ⟨_,rfl, ?_⟩)|(go_at_call 123;(with_reducible refine (r10_unit.calls a0_1 true _ A4.out).mono ?_);rintro e w' ⟨rfl,⟨nd,rfl⟩⟩)|(go_at_call 123;(with_reducible refine (r10_unit.calls a0_2 t4 _ A6.out).mono ?_);rintro e w' ⟨rfl,⟨nd,rfl⟩⟩))
 go_ret
 exact ⟨by first|rfl|(simp [errW_none,errW_some]<;>rfl)|(simp [*,errW_none,errW_some]<;>rfl),zl1_ HB GE1⟩
def r10_MayName.f (a0:ByteArray):Option (Bool):=if a0.toList=([]:List UInt8) then (some false) else (some (decide ((a0.size:Int)≤24)))
set_option maxHeartbeats 8000000 in
set_option maxRecDepth 100000 in
theorem r10_MayName.calls (a0:ByteArray) (r:Bool) (w:World) (h:r10_MayName.f a0=some r):
  Calls Try.prog 105 #[.string a0] w fun e w'=>e= .returned (.bool r)∧Drawn0 w w':=by
 have H:(if a0.toList=([]:List UInt8) then (some false) else (some (decide ((a0.size:Int)≤24))))=some r:=h
 clear h
 by_cases c2:a0.toList=([]:List UInt8)
 ·rw [if_pos c2] at H
  have c2b0:(a0.toList==([]:List UInt8))=true:=beq_iff_eq.mpr c2
  have c2b1:(a0.toList !=([]:List UInt8))=false:=bne_eq_false_iff_eq.mpr c2
  clear c2
  obtain rfl:=Option.some.inj H
  go_enter Try.func105,Try.ntmps105
  go_wp2
  go_ret
  exact ⟨by first|rfl|(simp;done)|(simp [*];done),by repeat (first|exact Drawn0.refl _|apply Drawn0.step)⟩
 rw [if_neg c2] at H
 have c2b0:(a0.toList==([]:List UInt8))=false:=beq_eq_false_iff_ne.mpr c2
 have c2b1:(a0.toList !=([]:List UInt8))=true:=bne_iff_ne.mpr c2
 obtain rfl:=Option.some.inj H
 go_enter Try.func105,Try.ntmps105
 go_wp2
 go_ret
 exact ⟨by first|rfl|(simp;done)|(simp [*];done),by repeat (first|exact Drawn0.refl _|apply Drawn0.step)⟩

def r10_no.f (a0:Int):Option ((List (S31))×Int):=some (([]:List (S31)),a0)
set_option maxHeartbeats 8000000 in
set_option maxRecDepth 100000 in
theorem r10_no.calls (a0:Int) (r1:List (S31)) (r2:Int) (w:World) (h:r10_no.f a0=some (r1,r2)):
  Calls Try.prog 113 #[.int .i64 a0] w fun e w'=> ∃v0_:Value,e= .returned (.agg #[v0_, .int .i64 r2])∧Kd.R k31 31 w' w.heap.size (fun _=>True) v0_ r1∧Below w.heap.size w w':=by
 have hu67:=Try.underlying67
 have HB:=am_ (Below.refl w.heap.size w)
 have H:(some (([]:List (S31)),a0))=some (r1,r2):=h
 clear h
 simp only [Option.some.injEq,Prod.mk.injEq] at H
 obtain ⟨rfl,rfl⟩:=H
 go_enter Try.func113,Try.ntmps113
 go_wp2_with (first|((with_reducible refine gate_dst (N:=2) rfl ?_);refine bx_ (N:=2) (cs:=#[.slice none 0 0, .int .i64 0]) (t:=67) ?_;intro gb1 hg w2 hbox hb;have BK1:=am_ (hbox);have GW1:=am_ ((zg0_ HB hg:w.heap.size≤gb1));have GE1:=am_ ((zg0_ HB hg:w.heap.size≤gb1));replace HB:=am_ (below_step (zl0_ HB) hb);clear hb hbox hg;obtain ⟨hcz3_0,hcz3_1⟩:=x2_ BK1;have hfz3_0:=blk_frozen BK1.out 0;have hfz3_1:=blk_frozen BK1.out 1))
 refine bodyPost_ret (results_cell_row rfl _ _ gb1 67 #[.slice none 0 0, .int .i64 a0] (0,0) _ rfl (zw_ BK1) Try.underlying67 rfl (by kernel_rfl)) rfl ?_
 exact ⟨_,by first|rfl|(simp [errW_none,errW_some]<;>rfl)|(simp [*,errW_none,errW_some]<;>rfl),by first|exact Kd.R_nil _ _ _ _ _|exact Kd.N_nil _ _ _ _ _|exact Kd.V_nil _ _ _ _ _|exact Kd.Q_nil _ _ _ _ _|exact Kd.S_nil _ _ _ _ _,zl1_ HB GE1⟩

def r10_copied.f (l0:List (S31)):Option ((List (S31))):=(some (([]:List (S31)):List (S31))).bind fun y1=>(if y1.length+l0.length<1256584717458 then (some (y1++l0)) else (none))
set_option maxHeartbeats 8000000 in
set_option maxRecDepth 100000 in
theorem r10_copied.calls (A0:Option Addr) (c0:Nat) (l0:List (S31)) (r:List (S31)) (w:World) (hr0:Kd.C k31 w A0 l0.length l0) (hc0:l0.length≤c0) (h:r10_copied.f l0=some r):
  Calls Try.prog 124 #[.slice A0 l0.length c0] w fun e w'=> ∃v0_:Value,e= .returned (v0_)∧Kd.R k31 31 w' w.heap.size (fun _=>True) v0_ r∧Below w.heap.size w w':=by
 have HR0:=Aside0.mk hr0
 have HC0:=Aside0.mk hc0
 clear hr0 hc0
 have HB:=am_ (Below.refl w.heap.size w)
 have H:((some (([]:List (S31)):List (S31))).bind fun y1=>(if y1.length+l0.length<1256584717458 then (some (y1++l0)) else (none)))=some r:=h
 clear h
 obtain ⟨y1,hy1⟩: ∃y_:List (S31),y_=(([]:List (S31))):=⟨_,rfl⟩
 replace H:(if y1.length+l0.length<1256584717458 then (some (y1++l0)) else (none))=some r:=by first|(rw [hy1];with_reducible exact H)|(have H2_:=(Option.bind_some _ _).symm.trans H;rw [hy1];with_reducible exact H2_)|(have H2_:=(Option.bind_some _ _).symm.trans H;with_reducible exact H2_)|with_reducible exact H|(rw [hy1];exact H)|exact H
 have Ny1:=Aside0.mk hy1
 clear hy1
 by_cases c2:y1.length+l0.length<1256584717458
 rotate_left
 ·rw [if_neg c2] at H
  exact absurd H (by simp)

 rw [if_pos c2] at H
 have LMc2:=Aside0.mk c2
 clear c2
 obtain ⟨y4,hy4⟩: ∃y_:List (S31),y_=(y1++l0):=⟨_,rfl⟩
 replace H:(some y4)=some r:=by first|(rw [hy4];with_reducible exact H)|(have H2_:=(Option.bind_some _ _).symm.trans H;rw [hy4];with_reducible exact H2_)|(have H2_:=(Option.bind_some _ _).symm.trans H;with_reducible exact H2_)|with_reducible exact H|(rw [hy4];exact H)|exact H
 have Ny4:=Aside0.mk hy4
 clear hy4
 obtain rfl:=Option.some.inj H
 go_enter Try.func124,Try.ntmps124
 go_wp2_with (first|((with_reducible refine gate_dst (N:=3) rfl ?_);refine Kd.R_lit k31 _ 31 ?hg (N:=3) ?hd (xs:=([]:List (S31))) (inner:=[]) (ok:=fun _=>True) (okp:=fun _=>True) ?hr ?hp (fun _ hk=>hk) trivial (Below.refl _ _) (Nat.le_refl _) (by simp) ?_;(case hd=>rfl);(case hg=>rfl);(case hr=>first|(go_simp;done)|(go_simp;rfl));(case hp=>exact (Reps.none _ _));intro v2 w3 ho4 hb hg_ hnew_;clear hg_ hnew_;(first|rw [←Ny1.out] at ho4|(simp only [Int.reduceToNat] at ho4;rw [←Ny1.out] at ho4));have HO3:=am_ (Kd.R_lower ho4 (below_size (zl0_ HB)));replace HB:=am_ (below_step (zl0_ HB) hb);clear hb ho4)|((with_reducible refine gate_builtin (b:= .append) (xs:=#[.tmp 3, .tmp 4]) rfl ?_);at_builtin;refine Kd.R_append_rows k31 (w0:=w) w.heap.size rfl (.tmp 3) (.tmp 4) 24 31 (.agg #[(.string ⟨#[]⟩),(.string ⟨#[]⟩),(.int .i64 0),(.int .i64 0),(.int .i64 0),(.int .i64 0),(.int .i64 0),(.int .i64 0),(.int .i64 0),(.int .i64 0),(.int .i64 0),(.int .i64 0)]) 112 rfl Try.underlying24 info31 rfl (by decide) (by omega) v2 y1 l0 _ _ _ (fun _=>True) (fun _=>False) rfl rfl ?aO ?aR (fun _ _ h=>h) (fun _ h=>h.elim) ?aF ?aB ?aS ?aL ?_;(case aR=>repeat (first|exact (Kd.C_below HR0.out HB.out)|(with_reducible refine Kd.C_alloc ?_ _)|(with_reducible refine Kd.C_drewN ?_ _)|(with_reducible refine Kd.C_drew ?_)));(case aB=>exact (zl0_ HB));(case aF=>exact (fun _ _=>trivial));(case aO=>exact (zr_ HO3));(case aS=>exact (below_size (zl0_ HB)));(case aL=>have:=LMc2.out;omega);intro v5 w5 ho hb hg hat;rw [←Ny4.out] at ho;have n0_:=am_ (hb);have n1_:=am_ (ho);clear HB;clear HO3;have HB:=n0_;have HO6:=n1_;clear n0_ n1_;clear ho hb hg hat))
 go_ret
 exact ⟨_,by first|rfl|(simp [errW_none,errW_some]<;>rfl)|(simp [*,errW_none,errW_some]<;>rfl),by (with_reducible repeat (first|apply Kd.R_alloc|apply Kd.R_drewN|apply Kd.R_drew));exact HO6.out,zl0_ HB⟩
mutual
def r10_Create.j0:Nat→List (S31)→ByteArray→ByteArray→Bool→Int→Int→Int→Option ((List (S31))×Int)
 |0,_,_,_,_,_,_,_=>none
 |k+1,x0,x1,x2,x11,x2000,x2001,x2002=>if x11=true then ((r10_no.f 1).bind fun bt5=>(some (bt5.1,bt5.2))) else ((r10_Find.f k x0 x1).bind fun t9=>(if t9≥0 then ((r10_no.f 3).bind fun bt10=>(some (bt10.1,bt10.2))) else (if x2.toList=([]:List UInt8) then (r10_Create.j1 k x0 x1 x2 false x2000 x2001 x2002) else ((r10_Find.f k x0 x2).bind fun t14=>(r10_Create.j1 k x0 x1 x2 (decide (t14<0)) x2000 x2001 x2002)))))
def r10_Create.j1:Nat→List (S31)→ByteArray→ByteArray→Bool→Int→Int→Int→Option ((List (S31))×Int)
 |0,_,_,_,_,_,_,_=>none
 |k+1,x0,x1,x2,x27,x2000,x2001,x2002=>if x27=true then ((r10_no.f 2).bind fun bt15=>(some (bt15.1,bt15.2))) else (if (x0.length:Int)≥120 then ((r10_no.f 4).bind fun bt19=>(some (bt19.1,bt19.2))) else (r10_Create.l0 k x0 x1 x2 0 x2000 x2001 x2002))
def r10_Create.l0:Nat→List (S31)→ByteArray→ByteArray→Int→Int→Int→Int→Option ((List (S31))×Int)
 |0,_,_,_,_,_,_,_=>none
 |k+1,x0,x1,x2,x9,x2000,x2001,x2002=>if x9<(x0.length:Int) then (if 0≤x9 then (if (Op.bytesLess (((rd_T31 x0 x9).f0).toList) x1.toList)=true then (r10_Create.l0 k x0 x1 x2 (wrap64 (x9+1)) x2000 x2001 x2002) else (if x9≤(x0.length:Int) then ((r10_copied.f (x0.take (x9:Int).toNat)).bind fun t28=>(if t28.length<1256584717458 then ((some (t28++ [(⟨x1,x2,(⟨x2000,x2001,x2002⟩:S27),(⟨0,0,0⟩:S27),(⟨0,0,0⟩:S27),1⟩:S31)]:List (S31))).bind fun y31=>((some (x0.drop (x9:Int).toNat:List (S31))).bind fun y34=>(if y31.length+y34.length<1256584717458 then (some ((y31++y34),0)) else (none)))) else (none))) else (none))) else (none)) else (if 0≤x9 then (if x9≤(x0.length:Int) then ((r10_copied.f (x0.take (x9:Int).toNat)).bind fun t45=>(if t45.length<1256584717458 then ((some (t45++ [(⟨x1,x2,(⟨x2000,x2001,x2002⟩:S27),(⟨0,0,0⟩:S27),(⟨0,0,0⟩:S27),1⟩:S31)]:List (S31))).bind fun y48=>((some (x0.drop (x9:Int).toNat:List (S31))).bind fun y51=>(if y48.length+y51.length<1256584717458 then (some ((y48++y51),0)) else (none)))) else (none))) else (none)) else (none))
end
def r10_Create.f (k:Nat) (l0:List (S31)) (a1:ByteArray) (a2:ByteArray) (a3_0:Int) (a3_1:Int) (a3_2:Int):Option ((List (S31))×Int):=(r10_MayName.f a1).bind fun t3=>(if t3=true then ((r10_MayVec.f a3_0 a3_1 a3_2).bind fun t4=>(r10_Create.j0 k l0 a1 a2 (!t4) a3_0 a3_1 a3_2)) else (r10_Create.j0 k l0 a1 a2 true a3_0 a3_1 a3_2))
theorem r10_Create.mono_l: ∀k,(∀y0 y1 y2 y3 y4 y5 y6,LeO (r10_Create.j0 k y0 y1 y2 y3 y4 y5 y6) (r10_Create.j0 (k+1) y0 y1 y2 y3 y4 y5 y6))∧(∀y0 y1 y2 y3 y4 y5 y6,LeO (r10_Create.j1 k y0 y1 y2 y3 y4 y5 y6) (r10_Create.j1 (k+1) y0 y1 y2 y3 y4 y5 y6))∧(∀y0 y1 y2 y3 y4 y5 y6,LeO (r10_Create.l0 k y0 y1 y2 y3 y4 y5 y6) (r10_Create.l0 (k+1) y0 y1 y2 y3 y4 y5 y6))
 |0=>⟨fun _ _ _ _ _ _ _ r h=>by simp [r10_Create.j0] at h,fun _ _ _ _ _ _ _ r h=>by simp [r10_Create.j1] at h,fun _ _ _ _ _ _ _ r h=>by simp [r10_Create.l0] at h⟩
 |k+1=>by
  obtain ⟨ih0,ih1,ih2⟩:=r10_Create.mono_l k
  refine ⟨?_, ?_, ?_⟩
  ·intro y0 y1 y2 y3 y4 y5 y6
   unfold r10_Create.j0
   repeat' first
   |(with_reducible exact ih0 _ _ _ _ _ _ _)
   |(with_reducible exact ih1 _ _ _ _ _ _ _)
   |(with_reducible exact ih2 _ _ _ _ _ _ _)
   |(with_reducible exact r10_Find.mono _ _ _)
   |(with_reducible exact LeO.refl _)
   |(with_reducible exact LeO.none _)
   |(with_reducible refine LeO.ite ?_ ?_)
   |(with_reducible refine LeO.bind ?_ (fun _=> ?_))
   |exact ih0 _ _ _ _ _ _ _
   |exact ih1 _ _ _ _ _ _ _
   |exact ih2 _ _ _ _ _ _ _
   |exact r10_Find.mono _ _ _
   |exact LeO.none _
   |refine LeO.ite ?_ ?_
   |refine LeO.bind ?_ (fun _=> ?_)
  ·intro y0 y1 y2 y3 y4 y5 y6
   unfold r10_Create.j1
   repeat' first
   |(with_reducible exact ih0 _ _ _ _ _ _ _)
   |(with_reducible exact ih1 _ _ _ _ _ _ _)
   |(with_reducible exact ih2 _ _ _ _ _ _ _)
   |(with_reducible exact r10_Find.mono _ _ _)
   |(with_reducible exact LeO.refl _)
   |(with_reducible exact LeO.none _)
   |(with_reducible refine LeO.ite ?_ ?_)
   |(with_reducible refine LeO.bind ?_ (fun _=> ?_))
   |exact ih0 _ _ _ _ _ _ _
   |exact ih1 _ _ _ _ _ _ _
   |exact ih2 _ _ _ _ _ _ _
   |exact r10_Find.mono _ _ _
   |exact LeO.none _
   |refine LeO.ite ?_ ?_
   |refine LeO.bind ?_ (fun _=> ?_)
  intro y0 y1 y2 y3 y4 y5 y6
  unfold r10_Create.l0
  repeat' first
  |(with_reducible exact ih0 _ _ _ _ _ _ _)
  |(with_reducible exact ih1 _ _ _ _ _ _ _)
  |(with_reducible exact ih2 _ _ _ _ _ _ _)
  |(with_reducible exact r10_Find.mono _ _ _)
  |(with_reducible exact LeO.refl _)
  |(with_reducible exact LeO.none _)
  |(with_reducible refine LeO.ite ?_ ?_)
  |(with_reducible refine LeO.bind ?_ (fun _=> ?_))
  |exact ih0 _ _ _ _ _ _ _
  |exact ih1 _ _ _ _ _ _ _
  |exact ih2 _ _ _ _ _ _ _
  |exact r10_Find.mono _ _ _
  |exact LeO.none _
  |refine LeO.ite ?_ ?_
  |refine LeO.bind ?_ (fun _=> ?_)
theorem r10_Create.mono: ∀a0 a1 a2 a3 a4 a5 k,LeO (r10_Create.f k a0 a1 a2 a3 a4 a5) (r10_Create.f (k+1) a0 a1 a2 a3 a4 a5):=by
 intro a0 a1 a2 a3 a4 a5 k
 obtain ⟨ih0,ih1,ih2⟩:=r10_Create.mono_l k
 unfold r10_Create.f
 repeat' first
  |(with_reducible exact ih0 _ _ _ _ _ _ _)
  |(with_reducible exact ih1 _ _ _ _ _ _ _)
  |(with_reducible exact ih2 _ _ _ _ _ _ _)
  |(with_reducible exact r10_Find.mono _ _ _)
  |(with_reducible exact LeO.refl _)
  |(with_reducible exact LeO.none _)
  |(with_reducible refine LeO.ite ?_ ?_)
  |(with_reducible refine LeO.bind ?_ (fun _=> ?_))
  |exact ih0 _ _ _ _ _ _ _
  |exact ih1 _ _ _ _ _ _ _
  |exact ih2 _ _ _ _ _ _ _
  |exact r10_Find.mono _ _ _
  |exact LeO.none _
  |refine LeO.ite ?_ ?_
  |refine LeO.bind ?_ (fun _=> ?_)
set_option maxHeartbeats 8000000 in
set_option maxRecDepth 100000 in
theorem r10_Create.calls (k:Nat) (A0:Option Addr) (c0:Nat) (l0:List (S31)) (a1:ByteArray) (a2:ByteArray) (a3_0:Int) (a3_1:Int) (a3_2:Int) (r1:List (S31)) (r2:Int) (w:World) (hr0:Kd.C k31 w A0 l0.length l0) (hc0:l0.length≤c0) (h:r10_Create.f k l0 a1 a2 a3_0 a3_1 a3_2=some (r1,r2)):
  Calls Try.prog 83 #[.slice A0 l0.length c0, .string a1, .string a2, .agg #[.int .i64 a3_0, .int .i64 a3_1, .int .i64 a3_2]] w fun e w'=> ∃v0_:Value,e= .returned (.agg #[v0_, .int .i64 r2])∧Kd.R k31 31 w' w.heap.size (fun _=>True) v0_ r1∧Below w.heap.size w w':=by
 have HR0:=Aside0.mk hr0
 have HC0:=Aside0.mk hc0
 clear hr0 hc0
 have HB:=am_ (Below.refl w.heap.size w)
 have H:((r10_MayName.f a1).bind fun t3=>(if t3=true then ((r10_MayVec.f a3_0 a3_1 a3_2).bind fun t4=>(r10_Create.j0 k l0 a1 a2 (!t4) a3_0 a3_1 a3_2)) else (r10_Create.j0 k l0 a1 a2 true a3_0 a3_1 a3_2)))=some (r1,r2):=h
 clear h
 have HC5:=Aside0.mk H
 clear H
 go_enter Try.func83,Try.ntmps83
 go_upto_region 1 with (first|((with_reducible refine gate_dst (N:=7) rfl ?_);refine bx_ (N:=7) (cs:=#[.int .i64 a3_0, .int .i64 a3_1, .int .i64 a3_2]) (t:=27) ?_;intro gb1 hg w6 hbox hb;have n0_:=am_ (below_step (zl0_ HB) hb);have n1_:=am_ (hbox);have n2_:=am_ ((zg0_ HB hg:w.heap.size≤gb1));have n3_:=am_ ((zg0_ HB hg:w.heap.size≤gb1));clear HB;have HB:=n0_;have BK1:=n1_;have GE1:=n3_;clear n0_ n1_ n2_ n3_;clear hb hbox hg)|((with_reducible refine gate_dst (N:=8) rfl ?_);refine bx_ (N:=8) (cs:=#[.slice none 0 0, .int .i64 0]) (t:=67) ?_;intro gb2 hg w7 hbox hb;have n0_:=am_ (blk_below (zb_ BK1) hb);have n1_:=am_ (below_step (zl1_ HB GE1) hb);have n2_:=am_ (hbox);have n3_:=am_ ((zg1_ HB GE1 hg:w.heap.size≤gb2));have n4_:=am_ ((zg1_ HB GE1 hg:w.heap.size≤gb2));have n5_:=am_ ((zn_ BK1 hg:gb1≠gb2));have n6_:=am_ ((zm_ BK1 hg:gb2≠gb1));clear BK1;clear HB;have BK1:=n0_;have HB:=n1_;have BK2:=n2_;have GE2:=n4_;clear n0_ n1_ n2_ n3_ n4_ n5_ n6_;clear hb hbox hg))
 (try simp only [Act.put,List.setIfInBounds_toArray,List.set_cons_zero,List.set_cons_succ])
 go_cut [11] (fun v11 wc=> ∃(kq:Nat) (x11_4:Bool),v11= .bool x11_4∧Aside0 (r10_Create.j0 kq l0 a1 a2 x11_4 a3_0 a3_1 a3_2=some (r1,r2))∧Aside0 (kq≤k)∧Aside0 (wc.heap[gb1]?=some (.cells #[.int .i64 a3_0, .int .i64 a3_1, .int .i64 a3_2] 27 (0,0)))∧Aside0 (wc.heap[gb2]?=some (.cells #[(.slice none 0 0), .int .i64 0] 67 (0,0)))∧Aside0 (Below w.heap.size w wc))
 case first=>
  have H:=HC5.out
  clear HC5
  replace H:=Option.bind_eq_some_iff.mp H
  obtain ⟨t3,A80,H⟩:=H
  try dsimp only at H
  have A8:=Aside0.mk A80
  clear A80
  by_cases c9:t3=true
  rotate_left
  ·replace c9:=Bool.eq_false_iff.mpr c9
   subst c9
   have H1:(r10_Create.j0 k l0 a1 a2 true a3_0 a3_1 a3_2)=some (r1,r2):=by rw [if_neg (show¬(false=true) by decide)] at H;exact H
   clear H
   have H:=H1
   clear H1
   have H':=Aside0.mk H
   clear H
   go_wp2_with (first|((with_reducible refine gate_callee (f:=105) rfl ?_);refine gl_ (some 13) Try.func105 #[.string a1] ?_;(with_reducible refine (r10_MayName.calls a1 false _ A8.out).mono ?_);rintro e w' ⟨rfl,⟨nd,rfl⟩⟩;refine ⟨_,rfl, ?_⟩))
   go_meet
   case rel=>exact ⟨_,(true),(by first|rfl|(simp;done)|(simp [*];done)),H',⟨by first|omega|exact Nat.le_refl _⟩,⟨by refine zk_ ?_;exact BK1.out⟩,⟨by refine zk_ ?_;exact BK2.out⟩,⟨zl2_ HB GE1 GE2⟩⟩
  subst c9
  have H1:((r10_MayVec.f a3_0 a3_1 a3_2).bind fun t4=>(r10_Create.j0 k l0 a1 a2 (!t4) a3_0 a3_1 a3_2))=some (r1,r2):=by rw [if_pos rfl] at H;exact H
  clear H
  have H:=H1
  clear H1
  replace H:=Option.bind_eq_some_iff.mp H
  obtain ⟨t4,A100,H⟩:=H
  try dsimp only at H
  have A10:=Aside0.mk A100
  clear A100
  have H':=Aside0.mk H
  clear H
  go_wp2_with (first|((with_reducible refine gate_callee (f:=105) rfl ?_);refine gl_ (some 13) Try.func105 #[.string a1] ?_;(with_reducible refine (r10_MayName.calls a1 true _ A8.out).mono ?_);rintro e w' ⟨rfl,⟨nd,rfl⟩⟩;refine ⟨_,rfl, ?_⟩;obtain ⟨hcz12_0,hcz12_1,hcz12_2⟩:=x3_ BK1)|(go_at_call 65;(with_reducible refine (r10_MayVec.calls a3_0 a3_1 a3_2 t4 _ A10.out).mono ?_);rintro e w13 ⟨rfl,hb⟩;replace BK1:=am_ (blk_below (zb_ BK1) hb);replace BK2:=am_ (blk_below (zb_ BK2) hb);replace HB:=am_ (below_step (zl2_ HB GE1 GE2) hb);(try clear hb);(try clear hb2);(try clear hk);(try clear hi)))
  go_meet
  case rel=>exact ⟨_,(!t4),(by first|rfl|(simp;done)|(simp [*];done)),H',⟨by first|omega|exact Nat.le_refl _⟩,⟨by refine zk_ ?_;exact BK1.out⟩,⟨by refine zk_ ?_;exact BK2.out⟩,⟨zl2_ HB GE1 GE2⟩⟩
 case rest=>
  clear HC5
  try clear c1
  try clear p2
  try clear c8
  try clear c9
  try clear c10
  try clear c11
  try clear hcz12_0
  try clear hcz12_1
  try clear hcz12_2
  obtain ⟨kq,x11_4,rfl,HA,HJ4,BK1,BK2,HB⟩:=hcut
  cases kq with
  |zero=>exact absurd HA.out (by simp [r10_Create.j0])
  |succ kj4=>
   have H:=HA.out
   clear HA
   simp only [r10_Create.j0] at H
   by_cases c14:x11_4=true
   ·subst c14
    have H1:((r10_no.f 1).bind fun bt5=>(some (bt5.1,bt5.2)))=some (r1,r2):=by rw [if_pos rfl] at H;exact H
    clear H
    have H:=H1
    clear H1
    replace H:=Option.bind_eq_some_iff.mp H
    obtain ⟨⟨t5,t8⟩,A150,H⟩:=H
    try dsimp only at H
    have A15:=Aside0.mk A150
    clear A150
    simp only [Option.some.injEq,Prod.mk.injEq] at H
    obtain ⟨rfl,rfl⟩:=H
    go_wp2_with (first|((with_reducible refine gate_callee (f:=113) rfl ?_);refine gl_ (some 20) Try.func113 #[.int .i64 1] ?_;(with_reducible refine (r10_no.calls 1 t5 t8 _ A15.out).mono ?_);rintro e w16 ⟨v6,rfl,ho0,hb⟩;refine ⟨_,rfl, ?_⟩;have HO7:=am_ (Kd.R_lower ho0 (below_size (zl2_ HB GE1 GE2)));replace BK1:=am_ (blk_below (zb_ BK1) hb);replace BK2:=am_ (blk_below (zb_ BK2) hb);replace HB:=am_ (below_step (zl2_ HB GE1 GE2) hb);(try clear hb);(try clear hb2);(try clear hk);(try clear hi);(try clear ho0);obtain ⟨Ao17,co17,eo17⟩:=Kd.R_slice HO7.out;subst eo17;obtain ⟨hcz19_0,hcz19_1⟩:=x2_ BK2;have hfz19_0:=blk_frozen BK2.out 0;have hfz19_1:=blk_frozen BK2.out 1))
    refine bodyPost_ret (results_cell_row rfl _ _ gb2 67 #[.slice Ao17 t5.length co17, .int .i64 t8] (0,0) _ rfl (zw_ BK2) Try.underlying67 rfl (by kernel_rfl)) rfl ?_
    exact ⟨_,by first|rfl|(simp [errW_none,errW_some]<;>rfl)|(simp [*,errW_none,errW_some]<;>rfl),zy_ HO7 BK2,zl2_ HB GE1 GE2⟩
   replace c14:=Bool.eq_false_iff.mpr c14
   subst c14
   have H1:((r10_Find.f kj4 l0 a1).bind fun t9=>(if t9≥0 then ((r10_no.f 3).bind fun bt10=>(some (bt10.1,bt10.2))) else (if a2.toList=([]:List UInt8) then (r10_Create.j1 kj4 l0 a1 a2 false a3_0 a3_1 a3_2) else ((r10_Find.f kj4 l0 a2).bind fun t14=>(r10_Create.j1 kj4 l0 a1 a2 (decide (t14<0)) a3_0 a3_1 a3_2)))))=some (r1,r2):=by rw [if_neg (show¬(false=true) by decide)] at H;exact H
   clear H
   have H:=H1
   clear H1
   replace H:=Option.bind_eq_some_iff.mp H
   obtain ⟨t9,A200,H⟩:=H
   try dsimp only at H
   have A20:=Aside0.mk A200
   clear A200
   by_cases c21:t9≥0
   ·rw [if_pos c21] at H
    have c21b0:decide (0≤t9)=true:=decide_eq_true c21
    clear c21
    replace H:=Option.bind_eq_some_iff.mp H
    obtain ⟨⟨t10,t13⟩,A220,H⟩:=H
    try dsimp only at H
    have A22:=Aside0.mk A220
    clear A220
    simp only [Option.some.injEq,Prod.mk.injEq] at H
    obtain ⟨rfl,rfl⟩:=H
    go_wp2_with (first|((with_reducible refine gate_callee (f:=50) rfl ?_);refine gl_ (some 24) Try.func50 #[.slice A0 l0.length c0, .string a1] ?_;(with_reducible refine (r10_Find.calls kj4 _ _ l0 a1 t9 _ ?side1 ?side2 A20.out).mono ?_);(case side1=>exact zc_ (Kd.C_below HR0.out HB.out));(case side2=>exact HC0.out);rintro e w' ⟨rfl,⟨nd,rfl⟩⟩;refine ⟨_,rfl, ?_⟩;(try (rw [drewN_self wc];generalize hq_:World.drewN wc _=wc;have n0_:Aside0 (wc.heap[gb1]?=some (.cells #[.int .i64 a3_0, .int .i64 a3_1, .int .i64 a3_2] 27 (0,0))):=⟨by rw [←hq_];exact (zb_ BK1)⟩;have n1_:Aside0 (wc.heap[gb2]?=some (.cells #[.slice none 0 0, .int .i64 0] 67 (0,0))):=⟨by rw [←hq_];exact (zb_ BK2)⟩;have n2_:Aside0 (Below w.heap.size w wc):=⟨by rw [←hq_];exact (zl2_ HB GE1 GE2)⟩;clear BK1 BK2 HB hq_;have BK1:=n0_;have BK2:=n1_;have HB:=n2_;clear n0_ n1_ n2_)))|((with_reducible refine gate_callee (f:=113) rfl ?_);refine gl_ (some 26) Try.func113 #[.int .i64 3] ?_;(with_reducible refine (r10_no.calls 3 t10 t13 _ A22.out).mono ?_);rintro e w23 ⟨v11,rfl,ho0,hb⟩;refine ⟨_,rfl, ?_⟩;have HO12:=am_ (Kd.R_lower ho0 (below_size (zl2_ HB GE1 GE2)));replace BK1:=am_ (blk_below (zb_ BK1) hb);replace BK2:=am_ (blk_below (zb_ BK2) hb);replace HB:=am_ (below_step (zl2_ HB GE1 GE2) hb);(try clear hb);(try clear hb2);(try clear hk);(try clear hi);(try clear ho0);obtain ⟨Ao24,co24,eo24⟩:=Kd.R_slice HO12.out;subst eo24;obtain ⟨hcz26_0,hcz26_1⟩:=x2_ BK2;have hfz26_0:=blk_frozen BK2.out 0;have hfz26_1:=blk_frozen BK2.out 1))
    refine bodyPost_ret (results_cell_row rfl _ _ gb2 67 #[.slice Ao24 t10.length co24, .int .i64 t13] (0,0) _ rfl (zw_ BK2) Try.underlying67 rfl (by kernel_rfl)) rfl ?_
    exact ⟨_,by first|rfl|(simp [errW_none,errW_some]<;>rfl)|(simp [*,errW_none,errW_some]<;>rfl),zy_ HO12 BK2,zl2_ HB GE1 GE2⟩
   rw [if_neg c21] at H
   have c21b0:decide (0≤t9)=false:=decide_eq_false c21
   clear c21
   have HC27:=Aside0.mk H
   clear H
   go_upto_region 5 with (first|((with_reducible refine gate_callee (f:=50) rfl ?_);refine gl_ (some 24) Try.func50 #[.slice A0 l0.length c0, .string a1] ?_;(with_reducible refine (r10_Find.calls kj4 _ _ l0 a1 t9 _ ?side1 ?side2 A20.out).mono ?_);(case side1=>exact zc_ (Kd.C_below HR0.out HB.out));(case side2=>exact HC0.out);rintro e w' ⟨rfl,⟨nd,rfl⟩⟩;refine ⟨_,rfl, ?_⟩))
   (try simp only [Act.put,List.setIfInBounds_toArray,List.set_cons_zero,List.set_cons_succ])
   go_cut [27] (fun v27 wc=> ∃(kq:Nat) (x27_26:Bool),v27= .bool x27_26∧Aside0 (r10_Create.j1 kq l0 a1 a2 x27_26 a3_0 a3_1 a3_2=some (r1,r2))∧Aside0 (kq≤kj4)∧Aside0 (wc.heap[gb1]?=some (.cells #[.int .i64 a3_0, .int .i64 a3_1, .int .i64 a3_2] 27 (0,0)))∧Aside0 (wc.heap[gb2]?=some (.cells #[(.slice none 0 0), .int .i64 0] 67 (0,0)))∧Aside0 (Below w.heap.size w wc))
   case first=>
    have H:=HC27.out
    clear HC27
    by_cases c28:a2.toList=([]:List UInt8)
    ·rw [if_pos c28] at H
     have c28b0:(a2.toList==([]:List UInt8))=true:=beq_iff_eq.mpr c28
     clear c28
     (first|rw [c28b0]|(simp only [i64_w,i32_w];rw [c28b0])|skip)
     have H':=Aside0.mk H
     clear H
     go_wp2
     go_meet
     case rel=>exact ⟨_,(false),(by first|rfl|(simp;done)|(simp [*];done)),H',⟨by have:=HJ4.out;first|omega|exact Nat.le_refl _⟩,⟨by refine zk_ ?_;exact BK1.out⟩,⟨by refine zk_ ?_;exact BK2.out⟩,⟨zl2_ HB GE1 GE2⟩⟩
    rw [if_neg c28] at H
    have c28b0:(a2.toList==([]:List UInt8))=false:=beq_eq_false_iff_ne.mpr c28
    (first|rw [c28b0]|(simp only [i64_w,i32_w];rw [c28b0])|skip)
    replace H:=Option.bind_eq_some_iff.mp H
    obtain ⟨t14,A290,H⟩:=H
    try dsimp only at H
    have A29:=Aside0.mk A290
    clear A290
    have H':=Aside0.mk H
    clear H
    go_wp2_with (first|(go_at_call 50;(with_reducible refine (r10_Find.calls kj4 _ _ l0 a2 t14 _ ?side1 ?side2 A29.out).mono ?_);(case side1=>exact zc_ (Kd.C_below HR0.out HB.out));(case side2=>exact HC0.out);rintro e w' ⟨rfl,⟨nd,rfl⟩⟩))
    go_meet
    case rel=>exact ⟨_,(decide (t14<0)),(by first|rfl|(simp;done)|(simp [*];done)),H',⟨by have:=HJ4.out;first|omega|exact Nat.le_refl _⟩,⟨by refine zk_ ?_;exact BK1.out⟩,⟨by refine zk_ ?_;exact BK2.out⟩,⟨zl2_ HB GE1 GE2⟩⟩
   case rest=>
    clear HC27
    try clear c1
    try clear c2
    try clear p2
    try clear c5
    try clear c8
    try clear c9
    try clear c10
    try clear c11
    try clear c14
    try clear c18
    try clear c21
    try clear c21b0
    try clear c25
    try clear c28
    try clear c28b0
    try clear hcz12_0
    try clear hcz12_1
    try clear hcz12_2
    try clear hcz19_0
    try clear hcz19_1
    try clear hcz26_0
    try clear hcz26_1
    try clear hfz19_0
    try clear hfz19_1
    try clear hfz26_0
    try clear hfz26_1
    try clear p2
    obtain ⟨kq,x27_26,rfl,HA,HJ26,BK1,BK2,HB⟩:=hcut
    cases kq with
    |zero=>exact absurd HA.out (by simp [r10_Create.j1])
    |succ kj26=>
     have H:=HA.out
     clear HA
     simp only [r10_Create.j1] at H
     by_cases c30:x27_26=true
     ·subst c30
      have H1:((r10_no.f 2).bind fun bt15=>(some (bt15.1,bt15.2)))=some (r1,r2):=by rw [if_pos rfl] at H;exact H
      clear H
      have H:=H1
      clear H1
      replace H:=Option.bind_eq_some_iff.mp H
      obtain ⟨⟨t15,t18⟩,A310,H⟩:=H
      try dsimp only at H
      have A31:=Aside0.mk A310
      clear A310
      simp only [Option.some.injEq,Prod.mk.injEq] at H
      obtain ⟨rfl,rfl⟩:=H
      go_wp2_with (first|((with_reducible refine gate_callee (f:=113) rfl ?_);refine gl_ (some 36) Try.func113 #[.int .i64 2] ?_;(with_reducible refine (r10_no.calls 2 t15 t18 _ A31.out).mono ?_);rintro e w32 ⟨v16,rfl,ho0,hb⟩;refine ⟨_,rfl, ?_⟩;have HO17:=am_ (Kd.R_lower ho0 (below_size (zl2_ HB GE1 GE2)));replace BK1:=am_ (blk_below (zb_ BK1) hb);replace BK2:=am_ (blk_below (zb_ BK2) hb);replace HB:=am_ (below_step (zl2_ HB GE1 GE2) hb);(try clear hb);(try clear hb2);(try clear hk);(try clear hi);(try clear ho0);obtain ⟨Ao33,co33,eo33⟩:=Kd.R_slice HO17.out;subst eo33;obtain ⟨hcz35_0,hcz35_1⟩:=x2_ BK2;have hfz35_0:=blk_frozen BK2.out 0;have hfz35_1:=blk_frozen BK2.out 1))
      refine bodyPost_ret (results_cell_row rfl _ _ gb2 67 #[.slice Ao33 t15.length co33, .int .i64 t18] (0,0) _ rfl (zw_ BK2) Try.underlying67 rfl (by kernel_rfl)) rfl ?_
      exact ⟨_,by first|rfl|(simp [errW_none,errW_some]<;>rfl)|(simp [*,errW_none,errW_some]<;>rfl),zy_ HO17 BK2,zl2_ HB GE1 GE2⟩
     replace c30:=Bool.eq_false_iff.mpr c30
     subst c30
     have H1:(if (l0.length:Int)≥120 then ((r10_no.f 4).bind fun bt19=>(some (bt19.1,bt19.2))) else (r10_Create.l0 kj26 l0 a1 a2 0 a3_0 a3_1 a3_2))=some (r1,r2):=by rw [if_neg (show¬(false=true) by decide)] at H;exact H
     clear H
     have H:=H1
     clear H1
     by_cases c36:(l0.length:Int)≥120
     ·rw [if_pos c36] at H
      have c36b0:decide (120≤(l0.length:Int))=true:=decide_eq_true c36
      clear c36
      replace H:=Option.bind_eq_some_iff.mp H
      obtain ⟨⟨t19,t22⟩,A370,H⟩:=H
      try dsimp only at H
      have A37:=Aside0.mk A370
      clear A370
      simp only [Option.some.injEq,Prod.mk.injEq] at H
      obtain ⟨rfl,rfl⟩:=H
      go_wp2_with (first|((with_reducible refine gate_callee (f:=113) rfl ?_);refine gl_ (some 41) Try.func113 #[.int .i64 4] ?_;(with_reducible refine (r10_no.calls 4 t19 t22 _ A37.out).mono ?_);rintro e w38 ⟨v20,rfl,ho0,hb⟩;refine ⟨_,rfl, ?_⟩;have HO21:=am_ (Kd.R_lower ho0 (below_size (zl2_ HB GE1 GE2)));replace BK1:=am_ (blk_below (zb_ BK1) hb);replace BK2:=am_ (blk_below (zb_ BK2) hb);replace HB:=am_ (below_step (zl2_ HB GE1 GE2) hb);(try clear hb);(try clear hb2);(try clear hk);(try clear hi);(try clear ho0);obtain ⟨Ao39,co39,eo39⟩:=Kd.R_slice HO21.out;subst eo39;obtain ⟨hcz41_0,hcz41_1⟩:=x2_ BK2;have hfz41_0:=blk_frozen BK2.out 0;have hfz41_1:=blk_frozen BK2.out 1))
      refine bodyPost_ret (results_cell_row rfl _ _ gb2 67 #[.slice Ao39 t19.length co39, .int .i64 t22] (0,0) _ rfl (zw_ BK2) Try.underlying67 rfl (by kernel_rfl)) rfl ?_
      exact ⟨_,by first|rfl|(simp [errW_none,errW_some]<;>rfl)|(simp [*,errW_none,errW_some]<;>rfl),zy_ HO21 BK2,zl2_ HB GE1 GE2⟩
     rw [if_neg c36] at H
     have c36b0:decide (120≤(l0.length:Int))=false:=decide_eq_false c36
     clear c36
     have H':=Aside0.mk H
     clear H
     go_wp2
     go_loopg [9] kj26 (fun kq v9 w'=> ∃(x9_3:Int),v9= .int .i64 x9_3∧Aside0 (r10_Create.l0 kq l0 a1 a2 x9_3 a3_0 a3_1 a3_2=some (r1,r2))∧Aside0 (kq≤kj26)∧Aside0 (w'.heap[gb1]?=some (.cells #[.int .i64 a3_0, .int .i64 a3_1, .int .i64 a3_2] 27 (0,0)))∧Aside0 (w'.heap[gb2]?=some (.cells #[(.slice none 0 0), .int .i64 0] 67 (0,0)))∧Aside0 (Below w.heap.size w w'))
     case atStart=>exact ⟨(0),(by first|rfl|(simp;done)|(simp [*];done)),H',⟨Nat.le_refl _⟩,⟨by refine zk_ ?_;exact BK1.out⟩,⟨by refine zk_ ?_;exact BK2.out⟩,⟨zl2_ HB GE1 GE2⟩⟩
     case round=>
      clear H'
      try clear c1
      try clear c2
      try clear p2
      try clear c3
      try clear c4
      try clear c5
      try clear c8
      try clear c9
      try clear c10
      try clear c11
      try clear c14
      try clear c18
      try clear c21
      try clear c21b0
      try clear c25
      try clear c28
      try clear c28b0
      try clear c30
      try clear c34
      try clear c36
      try clear c36b0
      try clear c40
      try clear hcz12_0
      try clear hcz12_1
      try clear hcz12_2
      try clear hcz19_0
      try clear hcz19_1
      try clear hcz26_0
      try clear hcz26_1
      try clear hcz35_0
      try clear hcz35_1
      try clear hcz41_0
      try clear hcz41_1
      try clear hfz19_0
      try clear hfz19_1
      try clear hfz26_0
      try clear hfz26_1
      try clear hfz35_0
      try clear hfz35_1
      try clear hfz41_0
      try clear hfz41_1
      try clear p2
      obtain ⟨x9_3,rfl,HA,HK3,BK1,BK2,HB⟩:=hrel
      cases gk with
      |zero=>exact absurd HA.out (by simp [r10_Create.l0])
      |succ k3=>
       have H:=HA.out
       clear HA
       simp only [r10_Create.l0] at H
       by_cases c42:x9_3<(l0.length:Int)
       rotate_left
       ·rw [if_neg c42] at H
        have c42b0:decide (x9_3<(l0.length:Int))=false:=decide_eq_false c42
        clear c42
        by_cases c61:0≤x9_3
        rotate_left
        ·rw [if_neg c61] at H
         exact absurd H (by simp)

        rw [if_pos c61] at H
        have c61b1:decide (0≤x9_3)=true:=decide_eq_true c61
        clear c61
        by_cases c62:x9_3≤(l0.length:Int)
        rotate_left
        ·rw [if_neg c62] at H
         exact absurd H (by simp)
        rw [if_pos c62] at H
        have c62b1:decide (x9_3≤(l0.length:Int))=true:=decide_eq_true c62
        clear c62
        obtain ⟨y41,hy41⟩: ∃y_:List (S31),y_=(l0.take (x9_3:Int).toNat):=⟨_,rfl⟩
        replace H:((r10_copied.f y41).bind fun t45=>(if t45.length<1256584717458 then ((some (t45++ [(⟨a1,a2,(⟨a3_0,a3_1,a3_2⟩:S27),(⟨0,0,0⟩:S27),(⟨0,0,0⟩:S27),1⟩:S31)]:List (S31))).bind fun y48=>((some (l0.drop (x9_3:Int).toNat:List (S31))).bind fun y51=>(if y48.length+y51.length<1256584717458 then (some ((y48++y51),0)) else (none)))) else (none)))=some (r1,r2):=by first|(rw [hy41];with_reducible exact H)|(have H2_:=(Option.bind_some _ _).symm.trans H;rw [hy41];with_reducible exact H2_)|(have H2_:=(Option.bind_some _ _).symm.trans H;with_reducible exact H2_)|with_reducible exact H|(rw [hy41];exact H)|exact H
        have Ny41:=Aside0.mk hy41
        clear hy41
        replace H:=Option.bind_eq_some_iff.mp H
        obtain ⟨t45,A630,H⟩:=H
        try dsimp only at H
        have A63:=Aside0.mk A630
        clear A630
        by_cases c64:t45.length<1256584717458
        rotate_left
        ·rw [if_neg c64] at H
         exact absurd H (by simp)
        rw [if_pos c64] at H
        have LMc64:=Aside0.mk c64
        clear c64
        obtain ⟨y48,hy48⟩: ∃y_:List (S31),y_=(t45++ [(⟨a1,a2,(⟨a3_0,a3_1,a3_2⟩:S27),(⟨0,0,0⟩:S27),(⟨0,0,0⟩:S27),1⟩:S31)]):=⟨_,rfl⟩
        replace H:((some (l0.drop (x9_3:Int).toNat:List (S31))).bind fun y51=>(if y48.length+y51.length<1256584717458 then (some ((y48++y51),0)) else (none)))=some (r1,r2):=by first|(rw [hy48];with_reducible exact H)|(have H2_:=(Option.bind_some _ _).symm.trans H;rw [hy48];with_reducible exact H2_)|(have H2_:=(Option.bind_some _ _).symm.trans H;with_reducible exact H2_)|with_reducible exact H|(rw [hy48];exact H)|exact H
        have Ny48:=Aside0.mk hy48
        clear hy48
        obtain ⟨y51,hy51⟩: ∃y_:List (S31),y_=(l0.drop (x9_3:Int).toNat):=⟨_,rfl⟩
        replace H:(if y48.length+y51.length<1256584717458 then (some ((y48++y51),0)) else (none))=some (r1,r2):=by first|(rw [hy51];with_reducible exact H)|(have H2_:=(Option.bind_some _ _).symm.trans H;rw [hy51];with_reducible exact H2_)|(have H2_:=(Option.bind_some _ _).symm.trans H;with_reducible exact H2_)|with_reducible exact H|(rw [hy51];exact H)|exact H
        have Ny51:=Aside0.mk hy51
        clear hy51
        by_cases c67:y48.length+y51.length<1256584717458
        rotate_left
        ·rw [if_neg c67] at H
         exact absurd H (by simp)
        rw [if_pos c67] at H
        have LMc67:=Aside0.mk c67
        clear c67
        obtain ⟨y55,hy55⟩: ∃y_:List (S31),y_=(y48++y51):=⟨_,rfl⟩
        replace H:(some (y55,0))=some (r1,r2):=by first|(rw [hy55];with_reducible exact H)|(have H2_:=(Option.bind_some _ _).symm.trans H;rw [hy55];with_reducible exact H2_)|(have H2_:=(Option.bind_some _ _).symm.trans H;with_reducible exact H2_)|with_reducible exact H|(rw [hy55];exact H)|exact H
        have Ny55:=Aside0.mk hy55
        clear hy55
        simp only [Option.some.injEq,Prod.mk.injEq] at H
        obtain ⟨rfl,rfl⟩:=H
        have q68:(x9_3:Int)≤((l0.length:Int):Int):=of_decide_eq_true zq_
        obtain ⟨i068,hi068,_,hsz68,_⟩:=info_parts info31
        have hroom68:l0.length≤c0:=HC0.out
        have hC68:Kd.C k31 _ A0 l0.length l0:=HR0.out
        have hcut68:=cut_to (P:=Try.prog) 24 31 .i64 Try.underlying24 hi068 A0 l0.length c0 x9_3 (of_decide_eq_true zq_) q68 hroom68
        have hr68:=Kd.C_take (m:=(x9_3:Int).toNat) hC68 (by omega)
        have hy68:y41.length=(x9_3:Int).toNat:=(by rw [Ny41.out,List.length_take];omega)
        rw [←Ny41.out] at hr68
        rw [←hy68] at hcut68
        have HR44:=Aside0.mk hr68
        have HC44:=am_ (show y41.length≤c0 from by omega)
        clear hr68 hC68 hroom68 hi068 hsz68
        clear hy68
        replace q68:=eq_true q68
        go_wp2_with (first|((with_reducible refine gate_callee (f:=124) rfl ?_);refine gl_ (some 60) Try.func124 #[.slice A0 y41.length c0] ?_;(with_reducible refine (r10_copied.calls _ _ y41 t45 _ ?side1 ?side2 A63.out).mono ?_);(case side1=>exact zc_ (Kd.C_below HR44.out HB.out));(case side2=>exact HC44.out);rintro e w69 ⟨v46,rfl,ho0,hb⟩;refine ⟨_,rfl, ?_⟩;have HO47:=am_ (Kd.R_lower ho0 (below_size (zl2_ HB GE1 GE2)));replace BK1:=am_ (blk_below (zb_ BK1) hb);replace BK2:=am_ (blk_below (zb_ BK2) hb);replace HB:=am_ (below_step (zl2_ HB GE1 GE2) hb);(try clear hb);(try clear hb2);(try clear hk);(try clear hi);(try clear ho0);obtain ⟨hcz71_0,hcz71_1,hcz71_2⟩:=x3_ BK1)|((with_reducible refine gate_builtin (b:= .append) (xs:=#[.tmp 61, .tmp 66]) rfl ?_);at_builtin;refine Kd.R_append k31 (w0:=w) w.heap.size rfl (.tmp 61) (.tmp 66) 24 31 (.agg #[(.string ⟨#[]⟩),(.string ⟨#[]⟩),(.int .i64 0),(.int .i64 0),(.int .i64 0),(.int .i64 0),(.int .i64 0),(.int .i64 0),(.int .i64 0),(.int .i64 0),(.int .i64 0),(.int .i64 0)]) 112 rfl Try.underlying24 info31 rfl (by decide) (by omega) v46 t45 (⟨a1,a2,(⟨a3_0,a3_1,a3_2⟩:S27),(⟨0,0,0⟩:S27),(⟨0,0,0⟩:S27),1⟩:S31) [.string a1, .string a2, .int .i64 a3_0, .int .i64 a3_1, .int .i64 a3_2, .int .i64 0, .int .i64 0, .int .i64 0, .int .i64 0, .int .i64 0, .int .i64 0, .int .i64 1] (fun _=>True) (fun _=>False) rfl rfl ?aP (fun _ hk=>hk.elim) ?aF ?aO ?aB ?aS ?aL ?_;(case aP=>exact k31_mkM _ _ _ (⟨a1,a2,(⟨a3_0,a3_1,a3_2⟩:S27),(⟨0,0,0⟩:S27),(⟨0,0,0⟩:S27),1⟩:S31));(case aB=>exact (zl2_ HB GE1 GE2));(case aF=>exact (fun _ _=>trivial));(case aO=>exact (zr_ HO47));(case aS=>exact (below_size (zl2_ HB GE1 GE2)));(case aL=>have:=LMc64.out;omega);intro v49 w72 ho hb hg hat;rw [←Ny48.out] at ho;have n0_:=am_ (blk_grown (zb_ BK1) hg (Kd.R_ne HO47.out BK1.out (by decide)));have n1_:=am_ (blk_grown (zb_ BK2) hg (Kd.R_ne HO47.out BK2.out (by decide)));have n2_:=am_ (hb);have n3_:=am_ (ho);clear BK1;clear BK2;clear HB;clear HO47;have BK1:=n0_;have BK2:=n1_;have HB:=n2_;have HO50:=n3_;clear n0_ n1_ n2_ n3_;clear ho hb hg hat;have q73:(x9_3:Int)≤((l0.length:Int):Int):=of_decide_eq_true zq_;obtain ⟨i073,hi073,_,hsz73,_⟩:=info_parts info31;have hroom73:l0.length≤c0:=HC0.out;have hC73:Kd.C k31 _ A0 l0.length l0:=HR0.out;have q073:(0:Int)≤(x9_3:Int):=of_decide_eq_true zq_;have hcut73:=cut_from (P:=Try.prog) 24 31 .i64 Try.underlying24 hi073 12 hsz73 A0 l0.length c0 x9_3 q073 q73;have hr73:=Kd.C_drop (m:=(x9_3:Int).toNat) (c:=c0) hC73 (by omega) hroom73;obtain ⟨A73,hA73⟩: ∃A1,A1=(if c0=(x9_3:Int).toNat then A0 else (A0:Option Addr).map (·.add ((x9_3:Int).toNat*12))):=⟨_,rfl⟩;obtain ⟨c73,hc73⟩: ∃c1,c1=c0 - (x9_3:Int).toNat:=⟨_,rfl⟩;have hy73:y51.length=l0.length - (x9_3:Int).toNat:=(by rw [Ny51.out,List.length_drop]<;>omega);rw [show (l0).drop (x9_3:Int).toNat=y51 from Ny51.out.symm] at hr73;replace hr73:Kd.C k31 _ A73 y51.length y51:=(by rw [hA73];exact hr73);rw [←hy73,←hA73,←hc73] at hcut73;have HR54:=Aside0.mk hr73;clear hr73 hC73 hroom73 hi073 hsz73 hc73;clear hy73 hA73;replace q73:=eq_true q73)|((with_reducible refine gate_builtin (b:= .append) (xs:=#[.tmp 68, .tmp 71]) rfl ?_);at_builtin;refine Kd.R_append_rows k31 (w0:=w) w.heap.size rfl (.tmp 68) (.tmp 71) 24 31 (.agg #[(.string ⟨#[]⟩),(.string ⟨#[]⟩),(.int .i64 0),(.int .i64 0),(.int .i64 0),(.int .i64 0),(.int .i64 0),(.int .i64 0),(.int .i64 0),(.int .i64 0),(.int .i64 0),(.int .i64 0)]) 112 rfl Try.underlying24 info31 rfl (by decide) (by omega) v49 y48 y51 _ _ _ (fun _=>True) (fun _=>False) rfl rfl ?aO ?aR (fun _ _ h=>h) (fun _ h=>h.elim) ?aF ?aB ?aS ?aL ?_;(case aR=>repeat (first|exact (Kd.C_below HR54.out HB.out)|(with_reducible refine Kd.C_alloc ?_ _)|(with_reducible refine Kd.C_drewN ?_ _)|(with_reducible refine Kd.C_drew ?_)));(case aB=>exact (zl2_ HB GE1 GE2));(case aF=>exact (fun _ _=>trivial));(case aO=>exact (zr_ HO50));(case aS=>exact (below_size (zl2_ HB GE1 GE2)));(case aL=>have:=LMc67.out;omega);intro v56 w74 ho hb hg hat;rw [←Ny55.out] at ho;have n0_:=am_ (blk_grown (zb_ BK1) hg (Kd.R_ne HO50.out BK1.out (by decide)));have n1_:=am_ (blk_grown (zb_ BK2) hg (Kd.R_ne HO50.out BK2.out (by decide)));have n2_:=am_ (hb);have n3_:=am_ (ho);clear BK1;clear BK2;clear HB;clear HO50;have BK1:=n0_;have BK2:=n1_;have HB:=n2_;have HO57:=n3_;clear n0_ n1_ n2_ n3_;clear ho hb hg hat;obtain ⟨Ao75,co75,eo75⟩:=Kd.R_slice HO57.out;subst eo75;obtain ⟨hcz76_0,hcz76_1⟩:=x2_ BK2;have hfz76_0:=blk_frozen BK2.out 0;have hfz76_1:=blk_frozen BK2.out 1))
        refine bodyPost_ret (results_cell_row rfl _ _ gb2 67 #[.slice Ao75 y55.length co75, .int .i64 0] (0,0) _ rfl (zw_ BK2) Try.underlying67 rfl (by kernel_rfl)) rfl ?_
        exact ⟨_,by first|rfl|(simp [errW_none,errW_some]<;>rfl)|(simp [*,errW_none,errW_some]<;>rfl),zy_ HO57 BK2,zl2_ HB GE1 GE2⟩
       rw [if_pos c42] at H
       have c42b0:decide (x9_3<(l0.length:Int))=true:=decide_eq_true c42
       clear c42
       by_cases c43:0≤x9_3
       rotate_left
       ·rw [if_neg c43] at H
        exact absurd H (by simp)
       rw [if_pos c43] at H
       have c43b0:decide (0≤x9_3)=true:=decide_eq_true c43
       clear c43
       by_cases c44:(Op.bytesLess (((rd_T31 l0 x9_3).f0).toList) a1.toList)=true
       ·rw [if_pos c44] at H
        have c44b0:(Op.bytesLess (((rd_T31 l0 x9_3).f0).toList) a1.toList)=true:=c44
        clear c44
        have H':=Aside0.mk H
        clear H
        have p23:0≤(x9_3:Int):=of_decide_eq_true zq_
        have q23:x9_3<(l0.length:Int):=of_decide_eq_true zq_
        obtain ⟨ad23,e23,hx23_0,hx23_1,hx23_2,hx23_3,hx23_4,hx23_5,hx23_6,hx23_7,hx23_8,hx23_9,hx23_10,hx23_11⟩:=at_T31 HR0.out x9_3 p23 q23
        cases e23
        replace hx23_0:=zx_ HB hx23_0
        replace hx23_1:=zx_ HB hx23_1
        replace hx23_2:=zx_ HB hx23_2
        replace hx23_3:=zx_ HB hx23_3
        replace hx23_4:=zx_ HB hx23_4
        replace hx23_5:=zx_ HB hx23_5
        replace hx23_6:=zx_ HB hx23_6
        replace hx23_7:=zx_ HB hx23_7
        replace hx23_8:=zx_ HB hx23_8
        replace hx23_9:=zx_ HB hx23_9
        replace hx23_10:=zx_ HB hx23_10
        replace hx23_11:=zx_ HB hx23_11
        replace p23:=eq_true p23
        replace q23:=eq_true q23
        go_wp2
        go_roundg k3
        case measure=>have:=HJ4.out;have:=HJ26.out;have:=HK3.out;omega
        case rel=>exact ⟨(wrap64 (x9_3+1)),(by first|rfl|(simp;done)|(simp [*];done)),H',⟨by have:=HJ4.out;have:=HJ26.out;have:=HK3.out;omega⟩,⟨by refine zk_ ?_;exact BK1.out⟩,⟨by refine zk_ ?_;exact BK2.out⟩,⟨zl2_ HB GE1 GE2⟩⟩
       rw [if_neg c44] at H
       have c44b0:(Op.bytesLess (((rd_T31 l0 x9_3).f0).toList) a1.toList)=false:=by simpa using c44
       clear c44
       have c45b0:=eq_true (of_decide_eq_true zq_:0≤x9_3)
       by_cases c46:x9_3≤(l0.length:Int)
       rotate_left
       ·rw [if_neg c46] at H
        exact absurd H (by simp)
       rw [if_pos c46] at H
       have c46b1:decide (x9_3≤(l0.length:Int))=true:=decide_eq_true c46
       clear c46
       obtain ⟨y24,hy24⟩: ∃y_:List (S31),y_=(l0.take (x9_3:Int).toNat):=⟨_,rfl⟩
       replace H:((r10_copied.f y24).bind fun t28=>(if t28.length<1256584717458 then ((some (t28++ [(⟨a1,a2,(⟨a3_0,a3_1,a3_2⟩:S27),(⟨0,0,0⟩:S27),(⟨0,0,0⟩:S27),1⟩:S31)]:List (S31))).bind fun y31=>((some (l0.drop (x9_3:Int).toNat:List (S31))).bind fun y34=>(if y31.length+y34.length<1256584717458 then (some ((y31++y34),0)) else (none)))) else (none)))=some (r1,r2):=by first|(rw [hy24];with_reducible exact H)|(have H2_:=(Option.bind_some _ _).symm.trans H;rw [hy24];with_reducible exact H2_)|(have H2_:=(Option.bind_some _ _).symm.trans H;with_reducible exact H2_)|with_reducible exact H|(rw [hy24];exact H)|exact H
       have Ny24:=Aside0.mk hy24
       clear hy24
       replace H:=Option.bind_eq_some_iff.mp H
       obtain ⟨t28,A470,H⟩:=H
       try dsimp only at H
       have A47:=Aside0.mk A470
       clear A470
       by_cases c48:t28.length<1256584717458
       rotate_left
       ·rw [if_neg c48] at H
        exact absurd H (by simp)
       rw [if_pos c48] at H
       have LMc48:=Aside0.mk c48
       clear c48
       obtain ⟨y31,hy31⟩: ∃y_:List (S31),y_=(t28++ [(⟨a1,a2,(⟨a3_0,a3_1,a3_2⟩:S27),(⟨0,0,0⟩:S27),(⟨0,0,0⟩:S27),1⟩:S31)]):=⟨_,rfl⟩
       replace H:((some (l0.drop (x9_3:Int).toNat:List (S31))).bind fun y34=>(if y31.length+y34.length<1256584717458 then (some ((y31++y34),0)) else (none)))=some (r1,r2):=by first|(rw [hy31];with_reducible exact H)|(have H2_:=(Option.bind_some _ _).symm.trans H;rw [hy31];with_reducible exact H2_)|(have H2_:=(Option.bind_some _ _).symm.trans H;with_reducible exact H2_)|with_reducible exact H|(rw [hy31];exact H)|exact H
       have Ny31:=Aside0.mk hy31
       clear hy31
       obtain ⟨y34,hy34⟩: ∃y_:List (S31),y_=(l0.drop (x9_3:Int).toNat):=⟨_,rfl⟩
       replace H:(if y31.length+y34.length<1256584717458 then (some ((y31++y34),0)) else (none))=some (r1,r2):=by first|(rw [hy34];with_reducible exact H)|(have H2_:=(Option.bind_some _ _).symm.trans H;rw [hy34];with_reducible exact H2_)|(have H2_:=(Option.bind_some _ _).symm.trans H;with_reducible exact H2_)|with_reducible exact H|(rw [hy34];exact H)|exact H
       have Ny34:=Aside0.mk hy34
       clear hy34
       by_cases c51:y31.length+y34.length<1256584717458
       rotate_left
       ·rw [if_neg c51] at H
        exact absurd H (by simp)
       rw [if_pos c51] at H
       have LMc51:=Aside0.mk c51
       clear c51
       obtain ⟨y38,hy38⟩: ∃y_:List (S31),y_=(y31++y34):=⟨_,rfl⟩
       replace H:(some (y38,0))=some (r1,r2):=by first|(rw [hy38];with_reducible exact H)|(have H2_:=(Option.bind_some _ _).symm.trans H;rw [hy38];with_reducible exact H2_)|(have H2_:=(Option.bind_some _ _).symm.trans H;with_reducible exact H2_)|with_reducible exact H|(rw [hy38];exact H)|exact H
       have Ny38:=Aside0.mk hy38
       clear hy38
       simp only [Option.some.injEq,Prod.mk.injEq] at H
       obtain ⟨rfl,rfl⟩:=H
       have p23:0≤(x9_3:Int):=of_decide_eq_true zq_
       have q23:x9_3<(l0.length:Int):=of_decide_eq_true zq_
       obtain ⟨ad23,e23,hx23_0,hx23_1,hx23_2,hx23_3,hx23_4,hx23_5,hx23_6,hx23_7,hx23_8,hx23_9,hx23_10,hx23_11⟩:=at_T31 HR0.out x9_3 p23 q23
       cases e23
       replace hx23_0:=zx_ HB hx23_0
       replace hx23_1:=zx_ HB hx23_1
       replace hx23_2:=zx_ HB hx23_2
       replace hx23_3:=zx_ HB hx23_3
       replace hx23_4:=zx_ HB hx23_4
       replace hx23_5:=zx_ HB hx23_5
       replace hx23_6:=zx_ HB hx23_6
       replace hx23_7:=zx_ HB hx23_7
       replace hx23_8:=zx_ HB hx23_8
       replace hx23_9:=zx_ HB hx23_9
       replace hx23_10:=zx_ HB hx23_10
       replace hx23_11:=zx_ HB hx23_11
       replace p23:=eq_true p23
       replace q23:=eq_true q23
       have q52:(x9_3:Int)≤((l0.length:Int):Int):=of_decide_eq_true zq_
       obtain ⟨i052,hi052,_,hsz52,_⟩:=info_parts info31
       have hroom52:l0.length≤c0:=HC0.out
       have hC52:Kd.C k31 _ (some ad23) l0.length l0:=HR0.out
       have hcut52:=cut_to (P:=Try.prog) 24 31 .i64 Try.underlying24 hi052 (some ad23) l0.length c0 x9_3 (of_decide_eq_true zq_) q52 hroom52
       have hr52:=Kd.C_take (m:=(x9_3:Int).toNat) hC52 (by omega)
       have hy52:y24.length=(x9_3:Int).toNat:=(by rw [Ny24.out,List.length_take];omega)
       rw [←Ny24.out] at hr52
       rw [←hy52] at hcut52
       have HR27:=Aside0.mk hr52
       have HC27:=am_ (show y24.length≤c0 from by omega)
       clear hr52 hC52 hroom52 hi052 hsz52
       clear hy52
       replace q52:=eq_true q52
       go_wp2_with (first|((with_reducible refine gate_callee (f:=124) rfl ?_);refine gl_ (some 60) Try.func124 #[.slice (some ad23) y24.length c0] ?_;(with_reducible refine (r10_copied.calls _ _ y24 t28 _ ?side1 ?side2 A47.out).mono ?_);(case side1=>exact zc_ (Kd.C_below HR27.out HB.out));(case side2=>exact HC27.out);rintro e w53 ⟨v29,rfl,ho0,hb⟩;refine ⟨_,rfl, ?_⟩;have HO30:=am_ (Kd.R_lower ho0 (below_size (zl2_ HB GE1 GE2)));replace BK1:=am_ (blk_below (zb_ BK1) hb);replace BK2:=am_ (blk_below (zb_ BK2) hb);replace HB:=am_ (below_step (zl2_ HB GE1 GE2) hb);(try clear hb);(try clear hb2);(try clear hk);(try clear hi);(try clear ho0);obtain ⟨hcz55_0,hcz55_1,hcz55_2⟩:=x3_ BK1)|((with_reducible refine gate_builtin (b:= .append) (xs:=#[.tmp 61, .tmp 66]) rfl ?_);at_builtin;refine Kd.R_append k31 (w0:=w) w.heap.size rfl (.tmp 61) (.tmp 66) 24 31 (.agg #[(.string ⟨#[]⟩),(.string ⟨#[]⟩),(.int .i64 0),(.int .i64 0),(.int .i64 0),(.int .i64 0),(.int .i64 0),(.int .i64 0),(.int .i64 0),(.int .i64 0),(.int .i64 0),(.int .i64 0)]) 112 rfl Try.underlying24 info31 rfl (by decide) (by omega) v29 t28 (⟨a1,a2,(⟨a3_0,a3_1,a3_2⟩:S27),(⟨0,0,0⟩:S27),(⟨0,0,0⟩:S27),1⟩:S31) [.string a1, .string a2, .int .i64 a3_0, .int .i64 a3_1, .int .i64 a3_2, .int .i64 0, .int .i64 0, .int .i64 0, .int .i64 0, .int .i64 0, .int .i64 0, .int .i64 1] (fun _=>True) (fun _=>False) rfl rfl ?aP (fun _ hk=>hk.elim) ?aF ?aO ?aB ?aS ?aL ?_;(case aP=>exact k31_mkM _ _ _ (⟨a1,a2,(⟨a3_0,a3_1,a3_2⟩:S27),(⟨0,0,0⟩:S27),(⟨0,0,0⟩:S27),1⟩:S31));(case aB=>exact (zl2_ HB GE1 GE2));(case aF=>exact (fun _ _=>trivial));(case aO=>exact (zr_ HO30));(case aS=>exact (below_size (zl2_ HB GE1 GE2)));(case aL=>have:=LMc48.out;omega);intro v32 w56 ho hb hg hat;rw [←Ny31.out] at ho;have n0_:=am_ (blk_grown (zb_ BK1) hg (Kd.R_ne HO30.out BK1.out (by decide)));have n1_:=am_ (blk_grown (zb_ BK2) hg (Kd.R_ne HO30.out BK2.out (by decide)));have n2_:=am_ (hb);have n3_:=am_ (ho);clear BK1;clear BK2;clear HB;clear HO30;have BK1:=n0_;have BK2:=n1_;have HB:=n2_;have HO33:=n3_;clear n0_ n1_ n2_ n3_;clear ho hb hg hat;have q57:(x9_3:Int)≤((l0.length:Int):Int):=of_decide_eq_true zq_;obtain ⟨i057,hi057,_,hsz57,_⟩:=info_parts info31;have hroom57:l0.length≤c0:=HC0.out;have hC57:Kd.C k31 _ (some ad23) l0.length l0:=HR0.out;have q057:(0:Int)≤(x9_3:Int):=of_decide_eq_true zq_;have hcut57:=cut_from (P:=Try.prog) 24 31 .i64 Try.underlying24 hi057 12 hsz57 (some ad23) l0.length c0 x9_3 q057 q57;have hr57:=Kd.C_drop (m:=(x9_3:Int).toNat) (c:=c0) hC57 (by omega) hroom57;obtain ⟨A57,hA57⟩: ∃A1,A1=(if c0=(x9_3:Int).toNat then (some ad23) else ((some ad23):Option Addr).map (·.add ((x9_3:Int).toNat*12))):=⟨_,rfl⟩;obtain ⟨c57,hc57⟩: ∃c1,c1=c0 - (x9_3:Int).toNat:=⟨_,rfl⟩;have hy57:y34.length=l0.length - (x9_3:Int).toNat:=(by rw [Ny34.out,List.length_drop]<;>omega);rw [show (l0).drop (x9_3:Int).toNat=y34 from Ny34.out.symm] at hr57;replace hr57:Kd.C k31 _ A57 y34.length y34:=(by rw [hA57];exact hr57);rw [←hy57,←hA57,←hc57] at hcut57;have HR37:=Aside0.mk hr57;clear hr57 hC57 hroom57 hi057 hsz57 hc57;clear hy57 hA57;replace q57:=eq_true q57)|((with_reducible refine gate_builtin (b:= .append) (xs:=#[.tmp 68, .tmp 71]) rfl ?_);at_builtin;refine Kd.R_append_rows k31 (w0:=w) w.heap.size rfl (.tmp 68) (.tmp 71) 24 31 (.agg #[(.string ⟨#[]⟩),(.string ⟨#[]⟩),(.int .i64 0),(.int .i64 0),(.int .i64 0),(.int .i64 0),(.int .i64 0),(.int .i64 0),(.int .i64 0),(.int .i64 0),(.int .i64 0),(.int .i64 0)]) 112 rfl Try.underlying24 info31 rfl (by decide) (by omega) v32 y31 y34 _ _ _ (fun _=>True) (fun _=>False) rfl rfl ?aO ?aR (fun _ _ h=>h) (fun _ h=>h.elim) ?aF ?aB ?aS ?aL ?_;(case aR=>repeat (first|exact (Kd.C_below HR37.out HB.out)|(with_reducible refine Kd.C_alloc ?_ _)|(with_reducible refine Kd.C_drewN ?_ _)|(with_reducible refine Kd.C_drew ?_)));(case aB=>exact (zl2_ HB GE1 GE2));(case aF=>exact (fun _ _=>trivial));(case aO=>exact (zr_ HO33));(case aS=>exact (below_size (zl2_ HB GE1 GE2)));(case aL=>have:=LMc51.out;omega);intro v39 w58 ho hb hg hat;rw [←Ny38.out] at ho;have n0_:=am_ (blk_grown (zb_ BK1) hg (Kd.R_ne HO33.out BK1.out (by decide)));have n1_:=am_ (blk_grown (zb_ BK2) hg (Kd.R_ne HO33.out BK2.out (by decide)));have n2_:=am_ (hb);have n3_:=am_ (ho);clear BK1;clear BK2;clear HB;clear HO33;have BK1:=n0_;have BK2:=n1_;have HB:=n2_;have HO40:=n3_;clear n0_ n1_ n2_ n3_;clear ho hb hg hat;obtain ⟨Ao59,co59,eo59⟩:=Kd.R_slice HO40.out;subst eo59;obtain ⟨hcz60_0,hcz60_1⟩:=x2_ BK2;have hfz60_0:=blk_frozen BK2.out 0;have hfz60_1:=blk_frozen BK2.out 1))
       refine bodyPost_ret (results_cell_row rfl _ _ gb2 67 #[.slice Ao59 y38.length co59, .int .i64 0] (0,0) _ rfl (zw_ BK2) Try.underlying67 rfl (by kernel_rfl)) rfl ?_
       exact ⟨_,by first|rfl|(simp [errW_none,errW_some]<;>rfl)|(simp [*,errW_none,errW_some]<;>rfl),zy_ HO40 BK2,zl2_ HB GE1 GE2⟩
def r10_Le.f (a0_0:Int) (a0_1:Int) (a0_2:Int) (a1_0:Int) (a1_1:Int) (a1_2:Int):Option (Bool):=if a0_0≤a1_0 then (if a0_1≤a1_1 then (some (decide (a0_2≤a1_2))) else (some false)) else (some false)
set_option maxHeartbeats 8000000 in
set_option maxRecDepth 100000 in
theorem r10_Le.calls (a0_0:Int) (a0_1:Int) (a0_2:Int) (a1_0:Int) (a1_1:Int) (a1_2:Int) (r:Bool) (w:World) (h:r10_Le.f a0_0 a0_1 a0_2 a1_0 a1_1 a1_2=some r):
  Calls Try.prog 34 #[.agg #[.int .i64 a0_0, .int .i64 a0_1, .int .i64 a0_2], .agg #[.int .i64 a1_0, .int .i64 a1_1, .int .i64 a1_2]] w fun e w'=>e= .returned (.bool r)∧Below w.heap.size w w':=by
 have hu27:=Try.underlying27
 have HB:=am_ (Below.refl w.heap.size w)
 have H:(if a0_0≤a1_0 then (if a0_1≤a1_1 then (some (decide (a0_2≤a1_2))) else (some false)) else (some false))=some r:=h
 clear h
 by_cases c3:a0_0≤a1_0
 rotate_left
 ·rw [if_neg c3] at H
  have c3b0:decide (a0_0≤a1_0)=false:=decide_eq_false c3
  clear c3
  obtain rfl:=Option.some.inj H
  go_enter Try.func34,Try.ntmps34
  go_wp2_with (first|((with_reducible refine gate_dst (N:=2) rfl ?_);refine bx_ (N:=2) (cs:=#[.int .i64 a0_0, .int .i64 a0_1, .int .i64 a0_2]) (t:=27) ?_;intro gb1 hg w15 hbox hb;have BK1:=am_ (hbox);have GW1:=am_ ((zg0_ HB hg:w.heap.size≤gb1));have GE1:=am_ ((zg0_ HB hg:w.heap.size≤gb1));replace HB:=am_ (below_step (zl0_ HB) hb);clear hb hbox hg)|((with_reducible refine gate_dst (N:=3) rfl ?_);refine bx_ (N:=3) (cs:=#[.int .i64 a1_0, .int .i64 a1_1, .int .i64 a1_2]) (t:=27) ?_;intro gb2 hg w16 hbox hb;have BK2:=am_ (hbox);have GW2:=am_ ((zg1_ HB GE1 hg:w.heap.size≤gb2));have GE2:=am_ ((zg1_ HB GE1 hg:w.heap.size≤gb2));replace HB:=am_ (below_step (zl1_ HB GE1) hb);have NB1_2:=am_ ((zn_ BK1 hg:gb1≠gb2));have NB2_1:=am_ ((zm_ BK1 hg:gb2≠gb1));replace BK1:=am_ (blk_below (zb_ BK1) hb);clear hb hbox hg;have hnb17:=NB1_2.out;have hnc17:=NB2_1.out;obtain ⟨hcz18_0,hcz18_1,hcz18_2,hfz18_0,hfz18_1,hfz18_2⟩:=y3_ BK1;obtain ⟨hcz19_0,hcz19_1,hcz19_2⟩:=x3_ BK2;have hfz19_0:=blk_frozen BK2.out 0;have hfz19_1:=blk_frozen BK2.out 1;have hfz19_2:=blk_frozen BK2.out 2))
  go_ret
  exact ⟨by first|rfl|(simp [errW_none,errW_some]<;>rfl)|(simp [*,errW_none,errW_some]<;>rfl),zl2_ HB GE1 GE2⟩

 rw [if_pos c3] at H
 have c3b0:decide (a0_0≤a1_0)=true:=decide_eq_true c3
 clear c3
 by_cases c4:a0_1≤a1_1
 ·rw [if_pos c4] at H
  have c4b0:decide (a0_1≤a1_1)=true:=decide_eq_true c4
  clear c4
  obtain rfl:=Option.some.inj H
  go_enter Try.func34,Try.ntmps34
  go_wp2_with (first|((with_reducible refine gate_dst (N:=2) rfl ?_);refine bx_ (N:=2) (cs:=#[.int .i64 a0_0, .int .i64 a0_1, .int .i64 a0_2]) (t:=27) ?_;intro gb1 hg w5 hbox hb;have BK1:=am_ (hbox);have GW1:=am_ ((zg0_ HB hg:w.heap.size≤gb1));have GE1:=am_ ((zg0_ HB hg:w.heap.size≤gb1));replace HB:=am_ (below_step (zl0_ HB) hb);clear hb hbox hg)|((with_reducible refine gate_dst (N:=3) rfl ?_);refine bx_ (N:=3) (cs:=#[.int .i64 a1_0, .int .i64 a1_1, .int .i64 a1_2]) (t:=27) ?_;intro gb2 hg w6 hbox hb;have BK2:=am_ (hbox);have GW2:=am_ ((zg1_ HB GE1 hg:w.heap.size≤gb2));have GE2:=am_ ((zg1_ HB GE1 hg:w.heap.size≤gb2));replace HB:=am_ (below_step (zl1_ HB GE1) hb);have NB1_2:=am_ ((zn_ BK1 hg:gb1≠gb2));have NB2_1:=am_ ((zm_ BK1 hg:gb2≠gb1));replace BK1:=am_ (blk_below (zb_ BK1) hb);clear hb hbox hg;have hnb7:=NB1_2.out;have hnc7:=NB2_1.out;obtain ⟨hcz8_0,hcz8_1,hcz8_2,hfz8_0,hfz8_1,hfz8_2⟩:=y3_ BK1;obtain ⟨hcz9_0,hcz9_1,hcz9_2⟩:=x3_ BK2;have hfz9_0:=blk_frozen BK2.out 0;have hfz9_1:=blk_frozen BK2.out 1;have hfz9_2:=blk_frozen BK2.out 2))
  go_ret
  exact ⟨by first|rfl|(simp [errW_none,errW_some]<;>rfl)|(simp [*,errW_none,errW_some]<;>rfl),zl2_ HB GE1 GE2⟩
 rw [if_neg c4] at H
 have c4b0:decide (a0_1≤a1_1)=false:=decide_eq_false c4
 clear c4
 obtain rfl:=Option.some.inj H
 go_enter Try.func34,Try.ntmps34
 go_wp2_with (first|((with_reducible refine gate_dst (N:=2) rfl ?_);refine bx_ (N:=2) (cs:=#[.int .i64 a0_0, .int .i64 a0_1, .int .i64 a0_2]) (t:=27) ?_;intro gb1 hg w10 hbox hb;have BK1:=am_ (hbox);have GW1:=am_ ((zg0_ HB hg:w.heap.size≤gb1));have GE1:=am_ ((zg0_ HB hg:w.heap.size≤gb1));replace HB:=am_ (below_step (zl0_ HB) hb);clear hb hbox hg)|((with_reducible refine gate_dst (N:=3) rfl ?_);refine bx_ (N:=3) (cs:=#[.int .i64 a1_0, .int .i64 a1_1, .int .i64 a1_2]) (t:=27) ?_;intro gb2 hg w11 hbox hb;have BK2:=am_ (hbox);have GW2:=am_ ((zg1_ HB GE1 hg:w.heap.size≤gb2));have GE2:=am_ ((zg1_ HB GE1 hg:w.heap.size≤gb2));replace HB:=am_ (below_step (zl1_ HB GE1) hb);have NB1_2:=am_ ((zn_ BK1 hg:gb1≠gb2));have NB2_1:=am_ ((zm_ BK1 hg:gb2≠gb1));replace BK1:=am_ (blk_below (zb_ BK1) hb);clear hb hbox hg;have hnb12:=NB1_2.out;have hnc12:=NB2_1.out;obtain ⟨hcz13_0,hcz13_1,hcz13_2,hfz13_0,hfz13_1,hfz13_2⟩:=y3_ BK1;obtain ⟨hcz14_0,hcz14_1,hcz14_2⟩:=x3_ BK2;have hfz14_0:=blk_frozen BK2.out 0;have hfz14_1:=blk_frozen BK2.out 1;have hfz14_2:=blk_frozen BK2.out 2))
 go_ret
 exact ⟨by first|rfl|(simp [errW_none,errW_some]<;>rfl)|(simp [*,errW_none,errW_some]<;>rfl),zl2_ HB GE1 GE2⟩
def r10_Add.f (a0_0:Int) (a0_1:Int) (a0_2:Int) (a1_0:Int) (a1_1:Int) (a1_2:Int):Option (Int×Int×Int):=some (wrap64 (a0_0+a1_0),wrap64 (a0_1+a1_1),wrap64 (a0_2+a1_2))
set_option maxHeartbeats 8000000 in
set_option maxRecDepth 100000 in
theorem r10_Add.calls (a0_0:Int) (a0_1:Int) (a0_2:Int) (a1_0:Int) (a1_1:Int) (a1_2:Int) (r1:Int) (r2:Int) (r3:Int) (w:World) (h:r10_Add.f a0_0 a0_1 a0_2 a1_0 a1_1 a1_2=some (r1,r2,r3)):
  Calls Try.prog 63 #[.agg #[.int .i64 a0_0, .int .i64 a0_1, .int .i64 a0_2], .agg #[.int .i64 a1_0, .int .i64 a1_1, .int .i64 a1_2]] w fun e w'=>e= .returned (.agg #[.int .i64 r1, .int .i64 r2, .int .i64 r3])∧Below w.heap.size w w':=by
 have hu27:=Try.underlying27
 have HB:=am_ (Below.refl w.heap.size w)
 have H:(some (wrap64 (a0_0+a1_0),wrap64 (a0_1+a1_1),wrap64 (a0_2+a1_2)))=some (r1,r2,r3):=h
 clear h
 simp only [Option.some.injEq,Prod.mk.injEq] at H
 obtain ⟨rfl,rfl,rfl⟩:=H
 go_enter Try.func63,Try.ntmps63
 go_wp2_with (first|((with_reducible refine gate_dst (N:=2) rfl ?_);refine bx_ (N:=2) (cs:=#[.int .i64 a0_0, .int .i64 a0_1, .int .i64 a0_2]) (t:=27) ?_;intro gb1 hg w3 hbox hb;have BK1:=am_ (hbox);have GW1:=am_ ((zg0_ HB hg:w.heap.size≤gb1));have GE1:=am_ ((zg0_ HB hg:w.heap.size≤gb1));replace HB:=am_ (below_step (zl0_ HB) hb);clear hb hbox hg)|((with_reducible refine gate_dst (N:=3) rfl ?_);refine bx_ (N:=3) (cs:=#[.int .i64 a1_0, .int .i64 a1_1, .int .i64 a1_2]) (t:=27) ?_;intro gb2 hg w4 hbox hb;have BK2:=am_ (hbox);have GW2:=am_ ((zg1_ HB GE1 hg:w.heap.size≤gb2));have GE2:=am_ ((zg1_ HB GE1 hg:w.heap.size≤gb2));replace HB:=am_ (below_step (zl1_ HB GE1) hb);have NB1_2:=am_ ((zn_ BK1 hg:gb1≠gb2));have NB2_1:=am_ ((zm_ BK1 hg:gb2≠gb1));replace BK1:=am_ (blk_below (zb_ BK1) hb);clear hb hbox hg)|((with_reducible refine gate_dst (N:=4) rfl ?_);refine bx_ (N:=4) (cs:=#[.int .i64 0, .int .i64 0, .int .i64 0]) (t:=27) ?_;intro gb3 hg w5 hbox hb;have BK3:=am_ (hbox);have GW3:=am_ ((zg2_ HB GE1 GE2 hg:w.heap.size≤gb3));have GE3:=am_ ((zg2_ HB GE1 GE2 hg:w.heap.size≤gb3));replace HB:=am_ (below_step (zl2_ HB GE1 GE2) hb);have NB1_3:=am_ ((zn_ BK1 hg:gb1≠gb3));have NB3_1:=am_ ((zm_ BK1 hg:gb3≠gb1));replace BK1:=am_ (blk_below (zb_ BK1) hb);have NB2_3:=am_ ((zn_ BK2 hg:gb2≠gb3));have NB3_2:=am_ ((zm_ BK2 hg:gb3≠gb2));replace BK2:=am_ (blk_below (zb_ BK2) hb);clear hb hbox hg;have hnb6:=NB1_2.out;have hnc6:=NB2_1.out;have hnb7:=NB1_3.out;have hnc7:=NB3_1.out;obtain ⟨hcz8_0,hcz8_1,hcz8_2,hfz8_0,hfz8_1,hfz8_2⟩:=y3_ BK1;have hnb9:=NB2_3.out;have hnc9:=NB3_2.out;obtain ⟨hcz10_0,hcz10_1,hcz10_2,hfz10_0,hfz10_1,hfz10_2⟩:=y3_ BK2;obtain ⟨hcz11_0,hcz11_1,hcz11_2⟩:=x3_ BK3;have hfz11_0:=blk_frozen BK3.out 0;have hfz11_1:=blk_frozen BK3.out 1;have hfz11_2:=blk_frozen BK3.out 2))
 refine bodyPost_ret (results_cell_row rfl _ _ gb3 27 #[.int .i64 (wrap64 (a0_0+a1_0)), .int .i64 (wrap64 (a0_1+a1_1)), .int .i64 (wrap64 (a0_2+a1_2))] (0,0) _ rfl (zw_ BK3) Try.underlying27 rfl (by kernel_rfl)) rfl ?_
 exact ⟨by first|rfl|(simp [errW_none,errW_some]<;>rfl)|(simp [*,errW_none,errW_some]<;>rfl),zl3_ HB GE1 GE2 GE3⟩

def r10_Up.l0:Nat→List (S31)→List ByteArray→Int→Option (List ByteArray)
 |0,_,_,_=>none
 |k+1,x0,x5,x6=>if x6≥0 then (if (x5.length:Int)≤(x0.length:Int) then (if 0≤x6 then (if x6<(x0.length:Int) then (if x5.length<8796093022208 then ((r10_Find.f k x0 ((rd_T31 x0 x6).f1)).bind fun t7=>(r10_Up.l0 k x0 (x5++ [(rd_T31 x0 x6).f0]) t7)) else (none)) else (none)) else (none)) else (some x5)) else (some x5)
def r10_Up.f (k:Nat) (l0:List (S31)) (a1:ByteArray):Option (List ByteArray):=(r10_Find.f k l0 a1).bind fun t1=>(r10_Up.l0 k l0 ([]:List ByteArray) t1)
theorem r10_Up.mono_l: ∀k,(∀y0 y1 y2,LeO (r10_Up.l0 k y0 y1 y2) (r10_Up.l0 (k+1) y0 y1 y2))
 |0=>fun _ _ _ r h=>by simp [r10_Up.l0] at h
 |k+1=>by
  have ih0:=r10_Up.mono_l k
  intro y0 y1 y2
  unfold r10_Up.l0
  repeat' first
  |(with_reducible exact ih0 _ _ _)
  |(with_reducible exact r10_Find.mono _ _ _)
  |(with_reducible exact LeO.refl _)
  |(with_reducible exact LeO.none _)
  |(with_reducible refine LeO.ite ?_ ?_)
  |(with_reducible refine LeO.bind ?_ (fun _=> ?_))
  |exact ih0 _ _ _
  |exact r10_Find.mono _ _ _
  |exact LeO.none _
  |refine LeO.ite ?_ ?_
  |refine LeO.bind ?_ (fun _=> ?_)
theorem r10_Up.mono: ∀a0 a1 k,LeO (r10_Up.f k a0 a1) (r10_Up.f (k+1) a0 a1):=by
 intro a0 a1 k
 have ih0:=r10_Up.mono_l k
 unfold r10_Up.f
 repeat' first
  |(with_reducible exact ih0 _ _ _)
  |(with_reducible exact r10_Find.mono _ _ _)
  |(with_reducible exact LeO.refl _)
  |(with_reducible exact LeO.none _)
  |(with_reducible refine LeO.ite ?_ ?_)
  |(with_reducible refine LeO.bind ?_ (fun _=> ?_))
  |exact ih0 _ _ _
  |exact r10_Find.mono _ _ _
  |exact LeO.none _
  |refine LeO.ite ?_ ?_
  |refine LeO.bind ?_ (fun _=> ?_)
set_option maxHeartbeats 8000000 in
set_option maxRecDepth 100000 in
theorem r10_Up.calls (k:Nat) (A0:Option Addr) (c0:Nat) (l0:List (S31)) (a1:ByteArray) (r:List ByteArray) (w:World) (hr0:Kd.C k31 w A0 l0.length l0) (hc0:l0.length≤c0) (h:r10_Up.f k l0 a1=some r):
  Calls Try.prog 106 #[.slice A0 l0.length c0, .string a1] w fun e w'=> ∃v0_:Value,e= .returned (v0_)∧Kd.R Kd.string 9 w' w.heap.size (fun _=>True) v0_ r∧Below w.heap.size w w':=by
 have HR0:=Aside0.mk hr0
 have HC0:=Aside0.mk hc0
 clear hr0 hc0
 have HB:=am_ (Below.refl w.heap.size w)
 have H:((r10_Find.f k l0 a1).bind fun t1=>(r10_Up.l0 k l0 ([]:List ByteArray) t1))=some r:=h
 clear h
 replace H:=Option.bind_eq_some_iff.mp H
 obtain ⟨t1,A30,H⟩:=H
 try dsimp only at H
 have A3:=Aside0.mk A30
 clear A30
 have H':=Aside0.mk H
 clear H
 go_enter Try.func106,Try.ntmps106
 go_wp2_with (first|((with_reducible refine gate_callee (f:=50) rfl ?_);refine gl_ (some 9) Try.func50 #[.slice A0 l0.length c0, .string a1] ?_;(with_reducible refine (r10_Find.calls k _ _ l0 a1 t1 _ ?side1 ?side2 A3.out).mono ?_);(case side1=>repeat (first|exact HR0.out|(with_reducible refine Kd.C_alloc ?_ _)|(with_reducible refine Kd.C_drewN ?_ _)|(with_reducible refine Kd.C_drew ?_)));(case side2=>exact HC0.out);rintro e w' ⟨rfl,⟨nd,rfl⟩⟩;refine ⟨_,rfl, ?_⟩))
 go_loopg [5,6] k (fun kq v5 v6 w'=> ∃(x5_1:List ByteArray) (x6_1:Int),v6= .int .i64 x6_1∧Aside0 (r10_Up.l0 kq l0 x5_1 x6_1=some r)∧Aside0 (kq≤k)∧Aside0 (Kd.R Kd.string 9 w' w.heap.size (fun _=>True) v5 x5_1)∧Aside0 (Below w.heap.size w w'))
 case atStart=>exact ⟨(([]:List ByteArray)),(t1),(by first|rfl|(simp;done)|(simp [*];done)),H',⟨Nat.le_refl _⟩,⟨by first|exact Kd.R_nil _ _ _ _ _|exact Kd.N_nil _ _ _ _ _|exact Kd.V_nil _ _ _ _ _|exact Kd.Q_nil _ _ _ _ _|exact Kd.S_nil _ _ _ _ _⟩,⟨zl0_ HB⟩⟩
 case round=>
  clear H'
  try clear c1
  try clear p2
  obtain ⟨x5_1,x6_1,rfl,HA,HK1,HO_5,HB⟩:=hrel
  cases gk with
  |zero=>exact absurd HA.out (by simp [r10_Up.l0])
  |succ k1=>
   have H:=HA.out
   clear HA
   simp only [r10_Up.l0] at H
   by_cases c4:x6_1≥0
   rotate_left
   ·rw [if_neg c4] at H
    have c4b0:decide (0≤x6_1)=false:=decide_eq_false c4
    clear c4
    obtain rfl:=Option.some.inj H
    go_wp2
    go_ret
    exact ⟨_,by first|rfl|(simp [errW_none,errW_some]<;>rfl)|(simp [*,errW_none,errW_some]<;>rfl),by (with_reducible repeat (first|apply Kd.R_alloc|apply Kd.R_drewN|apply Kd.R_drew));exact HO_5.out,zl0_ HB⟩

   rw [if_pos c4] at H
   have c4b0:decide (0≤x6_1)=true:=decide_eq_true c4
   clear c4
   by_cases c5:(x5_1.length:Int)≤(l0.length:Int)
   rotate_left
   ·rw [if_neg c5] at H
    have c5b0:decide ((x5_1.length:Int)≤(l0.length:Int))=false:=decide_eq_false c5
    have c5b1:decide (x5_1.length≤l0.length)=false:=decide_eq_false (fun h=>c5 (Int.ofNat_le.mpr h))
    clear c5
    obtain rfl:=Option.some.inj H
    obtain ⟨Ao12,co12,eo12⟩:=Kd.R_slice HO_5.out
    subst eo12
    go_wp2
    go_ret
    exact ⟨_,by first|rfl|(simp [errW_none,errW_some]<;>rfl)|(simp [*,errW_none,errW_some]<;>rfl),by (with_reducible repeat (first|apply Kd.R_alloc|apply Kd.R_drewN|apply Kd.R_drew));exact HO_5.out,zl0_ HB⟩
   rw [if_pos c5] at H
   have c5b0:decide ((x5_1.length:Int)≤(l0.length:Int))=true:=decide_eq_true c5
   have c5b1:decide (x5_1.length≤l0.length)=true:=decide_eq_true (Int.ofNat_le.mp c5)
   clear c5
   by_cases c6:0≤x6_1
   rotate_left
   ·rw [if_neg c6] at H
    exact absurd H (by simp)
   rw [if_pos c6] at H
   have c6b0:decide (0≤x6_1)=true:=decide_eq_true c6
   clear c6
   by_cases c7:x6_1<(l0.length:Int)
   rotate_left
   ·rw [if_neg c7] at H
    exact absurd H (by simp)
   rw [if_pos c7] at H
   have c7b0:decide (x6_1<(l0.length:Int))=true:=decide_eq_true c7
   clear c7
   by_cases c8:x5_1.length<8796093022208
   rotate_left
   ·rw [if_neg c8] at H
    exact absurd H (by simp)
   rw [if_pos c8] at H
   have LMc8:=Aside0.mk c8
   clear c8
   obtain ⟨y3,hy3⟩: ∃y_:List ByteArray,y_=(x5_1++ [(rd_T31 l0 x6_1).f0]):=⟨_,rfl⟩
   replace H:((r10_Find.f k1 l0 ((rd_T31 l0 x6_1).f1)).bind fun t7=>(r10_Up.l0 k1 l0 y3 t7))=some r:=by first|(rw [hy3];with_reducible exact H)|(have H2_:=(Option.bind_some _ _).symm.trans H;rw [hy3];with_reducible exact H2_)|(have H2_:=(Option.bind_some _ _).symm.trans H;with_reducible exact H2_)|with_reducible exact H|(rw [hy3];exact H)|exact H
   have Ny3:=Aside0.mk hy3
   clear hy3
   replace H:=Option.bind_eq_some_iff.mp H
   obtain ⟨t7,A90,H⟩:=H
   try dsimp only at H
   have A9:=Aside0.mk A90
   clear A90
   have H':=Aside0.mk H
   clear H
   obtain ⟨Ao10,co10,eo10⟩:=Kd.R_slice HO_5.out
   subst eo10
   have p2:0≤(x6_1:Int):=of_decide_eq_true zq_
   have q2:x6_1<(l0.length:Int):=of_decide_eq_true zq_
   obtain ⟨ad2,e2,hx2_0,hx2_1,hx2_2,hx2_3,hx2_4,hx2_5,hx2_6,hx2_7,hx2_8,hx2_9,hx2_10,hx2_11⟩:=at_T31 HR0.out x6_1 p2 q2
   cases e2
   replace hx2_0:=zx_ HB hx2_0
   replace hx2_1:=zx_ HB hx2_1
   replace hx2_2:=zx_ HB hx2_2
   replace hx2_3:=zx_ HB hx2_3
   replace hx2_4:=zx_ HB hx2_4
   replace hx2_5:=zx_ HB hx2_5
   replace hx2_6:=zx_ HB hx2_6
   replace hx2_7:=zx_ HB hx2_7
   replace hx2_8:=zx_ HB hx2_8
   replace hx2_9:=zx_ HB hx2_9
   replace hx2_10:=zx_ HB hx2_10
   replace hx2_11:=zx_ HB hx2_11
   replace p2:=eq_true p2
   replace q2:=eq_true q2
   go_wp2_with (first|((with_reducible refine gate_builtin (b:= .append) (xs:=#[.tmp 26, .tmp 32]) rfl ?_);(try (refine gate_guard (by rfl) ?_;dsimp only));at_builtin;refine Kd.R_append Kd.string (w0:=w) w.heap.size rfl (.tmp 26) (.tmp 32) 74 9 (.string ⟨#[]⟩) 16 rfl Try.underlying74 info9 rfl (by decide) (by omega) (.slice Ao10 x5_1.length co10) x5_1 ((rd_T31 l0 x6_1).f0) [.string ((rd_T31 l0 x6_1).f0)] (fun _=>True) (fun _=>False) rfl rfl ?aP (fun _ hk=>hk.elim) ?aF ?aO ?aB ?aS ?aL ?_;(case aP=>exact rfl);(case aB=>exact (zl0_ HB));(case aF=>exact (fun _ _=>trivial));(case aO=>exact (zr_ HO_5));(case aS=>exact (below_size (zl0_ HB)));(case aL=>have:=LMc8.out;omega);intro v4 w11 ho hb hg hat;rw [←Ny3.out] at ho;have n0_:=am_ (hb);have n1_:=am_ (ho);clear HB;clear HO_5;have HB:=n0_;have HO5:=n1_;clear n0_ n1_;clear ho hb hg hat;have p6:0≤(x6_1:Int):=of_decide_eq_true zq_;have q6:x6_1<(l0.length:Int):=of_decide_eq_true zq_;obtain ⟨ad6,e6,hx6_0,hx6_1,hx6_2,hx6_3,hx6_4,hx6_5,hx6_6,hx6_7,hx6_8,hx6_9,hx6_10,hx6_11⟩:=at_T31 HR0.out x6_1 p6 q6;obtain rfl:ad2=ad6:=(by injection e6);replace hx6_0:=zx_ HB hx6_0;replace hx6_1:=zx_ HB hx6_1;replace hx6_2:=zx_ HB hx6_2;replace hx6_3:=zx_ HB hx6_3;replace hx6_4:=zx_ HB hx6_4;replace hx6_5:=zx_ HB hx6_5;replace hx6_6:=zx_ HB hx6_6;replace hx6_7:=zx_ HB hx6_7;replace hx6_8:=zx_ HB hx6_8;replace hx6_9:=zx_ HB hx6_9;replace hx6_10:=zx_ HB hx6_10;replace hx6_11:=zx_ HB hx6_11;replace p6:=eq_true p6;replace q6:=eq_true q6)|((with_reducible refine gate_callee (f:=50) rfl ?_);refine gl_ (some 25) Try.func50 #[.slice (some ad2) l0.length c0, .string ((rd_T31 l0 x6_1).f1)] ?_;(with_reducible refine (r10_Find.calls k1 _ _ l0 ((rd_T31 l0 x6_1).f1) t7 _ ?side1 ?side2 A9.out).mono ?_);(case side1=>exact zc_ (Kd.C_below HR0.out HB.out));(case side2=>exact HC0.out);rintro e w' ⟨rfl,⟨nd,rfl⟩⟩;refine ⟨_,rfl, ?_⟩))
   go_roundg k1
   case measure=>have:=HK1.out;omega
   case rel=>exact ⟨(y3),(t7),(by first|rfl|(simp;done)|(simp [*];done)),H',⟨by have:=HK1.out;omega⟩,⟨by (with_reducible repeat (first|apply Kd.R_alloc|apply Kd.R_drewN|apply Kd.R_drew));exact HO5.out⟩,⟨zl0_ HB⟩⟩
end Go.Proofs.Ytcgefpklljclgaa.Print

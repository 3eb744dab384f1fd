/- WantTop: a part -/
import Derived.Test.YtahidkjncljkaaaProg
import Derived.Below
import Derived.Deep.Draws
import Derived.Deep.AppendLies
import Derived.Maps.AppendAt
import Derived.OwnWalk
import Derived.Laws.BytesArg
import Derived.Laws.MakeOwn
import Derived.Laws.OwnMore
import Derived.Deep.OwnRows
import Derived.Tactics
import Derived.Lib.ConvBytes
import Derived.Laws.Slices
import Derived.WalkKit
import Derived.KernelRfl
import Derived.RowKit3
import Derived.Deep.LoopGhost
import Derived.Deep.QuietTactic
import Derived.BigQuiet
import Derived.WideLaws
import Derived.Deep.DeepCutAuto
import Derived.Deep.CutBlock
import Derived.Deep.RegionHeld3
import Derived.Laws.Rows
import Derived.Lib.AppendStr
import Derived.ArgAppend
import Derived.Laws.IdiomCopy
import Derived.OrdersHeld
import Derived.Laws.BitsLemmas
import Derived.RowKit
import Derived.Shelf.Abstract
import Derived.Laws.Strings
import Derived.Maps.OwnOps
import Derived.Maps.Views
import Derived.WalkSpells
import Derived.Sort.LotA
import Derived.Shelf.SlSortCmp.KitK
import Derived.Laws.Cover1
import Derived.Sort.Grow
import Derived.Shelf.GgSortFunc.RowK
import Derived.Test.YtahidkjncljkaaaBWantTop0
set_option linter.unusedVariables false
set_option linter.unusedSimpArgs false
namespace Go.Proofs.Ytahidkjncljkaaa.Print
open Go.RowKit Go.Proofs.YtahidkjncljkaaaW.PrintWords Go.Proofs.YtahidkjncljkaaaW.PrintLast Go.Proofs.YtahidkjncljkaaaW.PrintMore
attribute [local go_sem] max2_int min2_int max_two min_two max_three min_three max_four min_four



def errW:Option Int→Value
 |none=> .nilIface
 |some c=> .iface 0 (.int .i64 c)
theorem errW_none:errW none= .nilIface:=rfl
theorem errW_some (c:Int):errW (some c)= .iface 0 (.int .i64 c):=rfl

theorem info3:(Try.prog.info? 3).map (fun i=>(i.zero,i.size,i.bytes))=some (some (.int .i64 0),1,8):=by kernel_rfl
theorem info37:(Try.prog.info? 37).map (fun i=>(i.zero,i.size,i.bytes))=some (some (.agg #[(.int .i64 0),(.int .i64 0),(.int .i64 0)]),3,24):=by kernel_rfl
theorem info39:(Try.prog.info? 39).map (fun i=>(i.zero,i.size,i.bytes))=some (some (.agg #[(.string ⟨#[]⟩),(.string ⟨#[]⟩),(.int .i64 0),(.int .i64 0),(.int .i64 0)]),5,56):=by kernel_rfl
-- the values' own types
structure S37 where
 f0:Int
 f1:Int
 f2:Int
def z37:S37:=⟨(0:Int),(0:Int),(0:Int)⟩
def k37:Kd S37:=Kd.iso (Kd.pair (Kd.int .i64) (Kd.pair (Kd.int .i64) (Kd.int .i64))) (fun x:S37=>(x.f0,x.f1,x.f2))
theorem k37_open {w:World} {x:S37} {cs:List Value} (h:k37.K w x cs):cs=[.int .i64 x.f0, .int .i64 x.f1, .int .i64 x.f2]:=by
 obtain ⟨_,_,rfl,rfl,⟨_,_,rfl,rfl,rfl⟩⟩:=h
 exact rfl
theorem k37_openM {w:World} {base:Nat} {ok:Nat→Prop} {x:S37} {cs:List Value} (h:k37.M w base ok x cs):cs=[.int .i64 x.f0, .int .i64 x.f1, .int .i64 x.f2]:=by
 obtain ⟨_,_,rfl,rfl,⟨_,_,rfl,rfl,rfl⟩⟩:=h
 exact rfl
theorem k37_mkM (w:World) (base:Nat) (ok:Nat→Prop) (x:S37):k37.M w base ok x [.int .i64 x.f0, .int .i64 x.f1, .int .i64 x.f2]:=⟨[.int .i64 x.f0],[.int .i64 x.f1, .int .i64 x.f2],rfl,rfl,⟨[.int .i64 x.f1],[.int .i64 x.f2],rfl,rfl,rfl⟩⟩
def rd_T37 (xs:List S37) (i:Int):S37:=xs.getD i.toNat z37
theorem at_T37 {w:World} {A:Option Addr} {n:Nat} {xs:List S37} (h:Kd.C k37 w A n xs) (i:Int) (h0:0≤i) (h1:i<n): ∃ad,A=some ad∧w.cell? (ad.add (i.toNat*3))=some (.int .i64 (rd_T37 xs i).f0)∧w.cell? ⟨(ad.add (i.toNat*3)).block,(ad.add (i.toNat*3)).off+1,none⟩=some (.int .i64 (rd_T37 xs i).f1)∧w.cell? ⟨(ad.add (i.toNat*3)).block,(ad.add (i.toNat*3)).off+2,none⟩=some (.int .i64 (rd_T37 xs i).f2):=by
 obtain ⟨ad,c,e,_,hK,hc0⟩:=Kd.C_get h z37 i h0 h1
 have hc: ∀j u,c[j]?=some u→w.cell? (ad.add (i.toNat*3+j))=some u:=hc0
 obtain rfl:=k37_open hK
 exact ⟨ad,e,hc 0 _ rfl,by rw [←add_field _ _ 1 (by omega)];exact hc 1 _ rfl,by rw [←add_field _ _ 2 (by omega)];exact hc 2 _ rfl⟩

structure S39 where
 f0:ByteArray
 f1:ByteArray
 f2:S37
def z39:S39:=⟨(⟨#[]⟩:ByteArray),(⟨#[]⟩:ByteArray),z37⟩
def k39:Kd S39:=Kd.iso (Kd.pair Kd.string (Kd.pair Kd.string k37)) (fun x:S39=>(x.f0,x.f1,x.f2))
theorem k39_open {w:World} {x:S39} {cs:List Value} (h:k39.K w x cs):cs=[.string x.f0, .string x.f1, .int .i64 x.f2.f0, .int .i64 x.f2.f1, .int .i64 x.f2.f2]:=by
 obtain ⟨_,_,rfl,rfl,⟨_,_,rfl,rfl,s2⟩⟩:=h
 obtain rfl:=k37_open s2
 exact rfl
theorem k39_openM {w:World} {base:Nat} {ok:Nat→Prop} {x:S39} {cs:List Value} (h:k39.M w base ok x cs):cs=[.string x.f0, .string x.f1, .int .i64 x.f2.f0, .int .i64 x.f2.f1, .int .i64 x.f2.f2]:=by
 obtain ⟨_,_,rfl,rfl,⟨_,_,rfl,rfl,s2⟩⟩:=h
 obtain rfl:=k37_openM s2
 exact rfl
theorem k39_mkM (w:World) (base:Nat) (ok:Nat→Prop) (x:S39):k39.M w base ok x [.string x.f0, .string x.f1, .int .i64 x.f2.f0, .int .i64 x.f2.f1, .int .i64 x.f2.f2]:=⟨[.string x.f0],[.string x.f1, .int .i64 x.f2.f0, .int .i64 x.f2.f1, .int .i64 x.f2.f2],rfl,rfl,⟨[.string x.f1],[.int .i64 x.f2.f0, .int .i64 x.f2.f1, .int .i64 x.f2.f2],rfl,rfl,(k37_mkM w base ok x.f2)⟩⟩
def rd_T39 (xs:List S39) (i:Int):S39:=xs.getD i.toNat z39
theorem at_T39 {w:World} {A:Option Addr} {n:Nat} {xs:List S39} (h:Kd.C k39 w A n xs) (i:Int) (h0:0≤i) (h1:i<n): ∃ad,A=some ad∧w.cell? (ad.add (i.toNat*5))=some (.string (rd_T39 xs i).f0)∧w.cell? ⟨(ad.add (i.toNat*5)).block,(ad.add (i.toNat*5)).off+1,none⟩=some (.string (rd_T39 xs i).f1)∧w.cell? ⟨(ad.add (i.toNat*5)).block,(ad.add (i.toNat*5)).off+2,none⟩=some (.int .i64 (rd_T39 xs i).f2.f0)∧w.cell? ⟨(ad.add (i.toNat*5)).block,(ad.add (i.toNat*5)).off+3,none⟩=some (.int .i64 (rd_T39 xs i).f2.f1)∧w.cell? ⟨(ad.add (i.toNat*5)).block,(ad.add (i.toNat*5)).off+4,none⟩=some (.int .i64 (rd_T39 xs i).f2.f2):=by
 obtain ⟨ad,c,e,_,hK,hc0⟩:=Kd.C_get h z39 i h0 h1
 have hc: ∀j u,c[j]?=some u→w.cell? (ad.add (i.toNat*5+j))=some u:=hc0
 obtain rfl:=k39_open hK
 exact ⟨ad,e,hc 0 _ rfl,by rw [←add_field _ _ 1 (by omega)];exact hc 1 _ rfl,by rw [←add_field _ _ 2 (by omega)];exact hc 2 _ rfl,by rw [←add_field _ _ 3 (by omega)];exact hc 3 _ rfl,by rw [←add_field _ _ 4 (by omega)];exact hc 4 _ rfl⟩

structure S79 where
 f0:ByteArray
 f1:ByteArray
 f2:S37
 f3:S37
 f4:S37
 f5:Int
structure S84 where
 f0:ByteArray
 f1:ByteArray
 f2:S37
 f3:Int
structure S76 where
 f0:Int
 f1:ByteArray
 f2:ByteArray
 f3:S37
structure S56 where
 f0:(List S79)
 f1:Int
 f2:Int
structure S141 where
 f0:S39
 f1:S79
 f2:Bool
 f3:S37
theorem eqA37 (d:Nat) (w:World) (x0 y0:Int) (x1 y1:Int) (x2 y2:Int):
  (Op.equalIn (d+2) 37 (.agg #[.int .i64 x0, .int .i64 x1, .int .i64 x2]) (.agg #[.int .i64 y0, .int .i64 y1, .int .i64 y2])).run Try.prog w= .ok (x0==y0 && (x1==y1 && (x2==y2))) w:=by
 refine eqA_of Try.underlying37 (by kernel_rfl) ?_
 refine eqf_cons (by rfl) (by go_simp;rfl) (by go_simp;rfl) (by go_simp) ?_
 refine eqf_cons (by rfl) (by go_simp;rfl) (by go_simp;rfl) (by go_simp) ?_
 exact eqf_last (by rfl) (by go_simp;rfl) (by go_simp;rfl) (by go_simp)
theorem eqA39 (d:Nat) (w:World) (x0 y0:ByteArray) (x1 y1:ByteArray) (x2 y2:Int) (x3 y3:Int) (x4 y4:Int):
  (Op.equalIn (d+3) 39 (.agg #[.string x0, .string x1, .int .i64 x2, .int .i64 x3, .int .i64 x4]) (.agg #[.string y0, .string y1, .int .i64 y2, .int .i64 y3, .int .i64 y4])).run Try.prog w= .ok (x0.toList==y0.toList && (x1.toList==y1.toList && ((x2==y2 && (x3==y3 && (x4==y4)))))) w:=by
 refine eqA_of Try.underlying39 (by kernel_rfl) ?_
 refine eqf_cons (by rfl) (by go_simp;rfl) (by go_simp;rfl) (by go_simp) ?_
 refine eqf_cons (by rfl) (by go_simp;rfl) (by go_simp;rfl) (by go_simp) ?_
 exact eqf_last (by rfl) (by go_simp) (by go_simp) (eqA37 (d+0) w _ _ _ _ _ _)
def fidx {α:Type} (p:α→Bool):List α→Int→Int
 |[],_=> -1
 |x::l,i=>if p x=true then i else fidx p l (i+1)
theorem fidx_drop {α:Type} (p:α→Bool) (z:α) (l:List α) (i:Nat) (h:i<l.length):fidx p (l.drop i) i=if p (l.getD i z)=true then (i:Int) else fidx p (l.drop (i+1)) ((i+1:Nat):Int):=by
 rw [List.drop_eq_getElem_cons h,List.getD_eq_getElem?_getD,List.getElem?_eq_getElem h]
 rfl
def wantCells (x:S39):Array Value:=#[.string x.f0, .string x.f1, .int .i64 x.f2.f0, .int .i64 x.f2.f1, .int .i64 x.f2.f2]
set_option maxHeartbeats 1000000 in
set_option maxRecDepth 100000 in
theorem idxWant_calls (g:Nat) (lb:Array Value) (p:S39→Bool) (eg: ∀args w,(callFunc g args).run Try.prog w= .ok (.enter g args) w) (w:World)
    (hp: ∀W x,Below w.heap.size w W→Calls Try.prog g (#[.agg (wantCells x)]++lb) W fun e w'=>e= .returned (.bool (p x))∧Below W.heap.size W w')
    (A:Option Addr) (c:Nat) (l:List S39) (hr0:Kd.C k39 w A l.length l) (hc0:l.length≤c):
    Calls Try.prog 112 #[.slice A l.length c, .func (.func g) #[] lb] w fun e w'=>e= .returned (.int .i64 (fidx p l 0))∧Below w.heap.size w w':=by
  have hu39:=Try.underlying39
  have HR0:=Aside0.mk hr0
  have HP:=Aside0.mk hp
  have HEG:=Aside0.mk eg
  have hm:l.length≤9223372036854775807:=hr0.2.1
  clear hr0 hp eg
  go_enter Try.func112,Try.ntmps112
  go_wp2
  go_loopg [5,8] l.length (fun kq s5 s8 wr=> ∃i:Nat,i≤l.length∧l.length - i≤kq∧s8= .int .i64 i∧Aside0 (Below w.heap.size w wr)∧Aside0 (fidx p l 0=fidx p (l.drop i) i))
  case atStart=>exact ⟨0,by omega,by omega,rfl,⟨Below.refl _ _⟩,⟨rfl⟩⟩
  case round=>
    obtain ⟨i,hi,hg,rfl,HB,HF⟩:=hrel
    by_cases hlt:i<l.length
    rotate_left
    · obtain rfl : i = l.length := by omega
      go_wp2
      go_ret
      refine ⟨?_,HB.out⟩
      rw [HF.out,List.drop_length]
      rfl


    have hltz:(i:Int)<(l.length:Int):=by omega
    obtain ⟨ad,e1,h0,h1,h2,h3,h4⟩:=at_T39 HR0.out (i:Int) (by omega) (by omega)
    cases e1
    simp only [Int.toNat_natCast] at h0 h1 h2 h3 h4
    replace h0:=zx_ HB h0
    replace h1:=zx_ HB h1
    replace h2:=zx_ HB h2
    replace h3:=zx_ HB h3
    replace h4:=zx_ HB h4
    have hd:Aside0 _:=⟨fidx_drop p z39 l i hlt⟩
    have HC:=am_ (HP.out wr (rd_T39 l i) HB.out)
    generalize hy:rd_T39 l i=y at h0 h1 h2 h3 h4 HC
    have hq:p (l.getD i z39)=p y:=by rw [←hy];simp [rd_T39]
    have HQ:=Aside0.mk hq
    clear hy hq
    have eg:=HEG.out
    cases hb:p y with
    | true =>
      rw [hb] at HC HQ
      clear hb
      go_wp2_with (go_at_fn g;refine HC.out.mono ?_;rintro e w' ⟨rfl,hb'⟩;have HB':=am_ (below_step HB.out hb');clear hb')
      go_ret
      refine ⟨?_,HB'.out⟩
      rw [HF.out,hd.out,HQ.out]
      rfl
    | false =>
      rw [hb] at HC HQ
      clear hb
      go_wp2_with (go_at_fn g;refine HC.out.mono ?_;rintro e w' ⟨rfl,hb'⟩;have HB':=am_ (below_step HB.out hb');clear hb')
      go_roundg (l.length - (i+1))
      case measure=>omega
      case rel=>exact ⟨i+1,by omega,by omega,by go_num,HB',⟨by rw [HF.out,hd.out,HQ.out];rfl⟩⟩
set_option maxHeartbeats 1000000 in
set_option maxRecDepth 100000 in
theorem wantFind1_calls (W:World) (b:Nat) (nm:ByteArray) (hb:W.heap[b]?=some (.cells #[.string nm] 9 (0,0))) (x:S39):
  Calls Try.prog 113 #[.agg (wantCells x), .pointer (some ⟨b,0,none⟩)] W fun e w'=>e= .returned (.bool (x.f0.toList==nm.toList))∧Below W.heap.size W w':=by
 unfold wantCells
 have hu39:=Try.underlying39
 have h0:=(blk_cell hb 0).trans rfl
 have hl:b<W.heap.size:=blk_lt hb
 clear hb
 go_enter Try.func113,Try.ntmps113
 go_wp2
 go_ret
 exact ⟨rfl,by repeat (first|(with_reducible first|exact Below.refl _ _|apply below_alloc|apply pw_below_drewN|apply below_drew1))⟩
def wplace (l:List (S39)) (a1:ByteArray):Int:=fidx (fun x=>x.f0.toList==a1.toList) l 0
set_option maxHeartbeats 1000000 in
set_option maxRecDepth 100000 in
theorem wantFind_calls (A0:Option Addr) (c0:Nat) (l0:List (S39)) (a1:ByteArray) (w:World) (hr0:Kd.C k39 w A0 l0.length l0) (hc0:l0.length≤c0):
  Calls Try.prog 73 #[.agg #[.slice A0 l0.length c0], .string a1] w fun e w'=>e= .returned (.int .i64 (wplace l0 a1))∧Below w.heap.size w w':=by
 have hu110:=Try.underlying110
 obtain ⟨W1,hW1⟩: ∃W1,W1=(w.alloc (.cells #[.slice A0 l0.length c0] 110)).alloc (.cells #[.string a1] 9):=⟨_,rfl⟩
 have hs1:(w.alloc (.cells #[.slice A0 l0.length c0] 110)).heap.size=w.heap.size+1:=by simp
 have hn:W1.heap[w.heap.size+1]?=some (.cells #[.string a1] 9 (0,0)):=by rw [hW1,←hs1];exact blk_new _ _
 have hB:Below w.heap.size w W1:=by rw [hW1];exact below_alloc (below_alloc (Below.refl _ _) _) _
 have hr:fidx (fun x:S39=>x.f0.toList==a1.toList) l0 0=wplace l0 a1:=rfl
 have HC:=am_ (idxWant_calls 113 #[.pointer (some ⟨w.heap.size+1,0,none⟩)] (fun x=>x.f0.toList==a1.toList) (enters_of Try.func113 (by kernel_rfl) rfl) W1 (fun W x hb=>wantFind1_calls W (w.heap.size+1) a1 (blk_below hn hb) x) A0 c0 l0 (Kd.C_below hr0 hB) hc0)
 rw [hr] at HC
 generalize wplace l0 a1=r at HC ⊢
 have HW:=Aside0.mk hW1
 have HB:=Aside0.mk hB
 clear hr0 hr hW1 hn hB hs1
 go_enter Try.func73,Try.ntmps73
 go_wp2_with fail
 rw [←HW.out]
 refine HC.out.mono ?_
 rintro e w' ⟨rfl,hb⟩
 have HB':=am_ (below_step HB.out hb)
 clear hb
 go_wp2
 go_ret
 exact ⟨rfl,HB'.out⟩


def vec_Le.f (a0_0:Int) (a0_1:Int) (a0_2:Int) (a1_0:Int) (a1_1:Int) (a1_2:Int):Option (Bool):=if a0_0≤a1_0 then (if a0_1≤a1_1 then (some (decide (a0_2≤a1_2))) else (some false)) else (some false)
set_option maxHeartbeats 8000000 in
set_option maxRecDepth 100000 in
theorem vec_Le.calls (a0_0:Int) (a0_1:Int) (a0_2:Int) (a1_0:Int) (a1_1:Int) (a1_2:Int) (r:Bool) (w:World) (h:vec_Le.f a0_0 a0_1 a0_2 a1_0 a1_1 a1_2=some r):
  Calls Try.prog 114 #[.agg #[.int .i64 a0_0, .int .i64 a0_1, .int .i64 a0_2], .agg #[.int .i64 a1_0, .int .i64 a1_1, .int .i64 a1_2]] w fun e w'=>e= .returned (.bool r)∧Below w.heap.size w w':=by
 have hu37:=Try.underlying37
 have HB:=am_ (Below.refl w.heap.size w)
 have H:(if a0_0≤a1_0 then (if a0_1≤a1_1 then (some (decide (a0_2≤a1_2))) else (some false)) else (some false))=some r:=h
 clear h
 by_cases c3:a0_0≤a1_0
 rotate_left
 ·rw [if_neg c3] at H
  have c3b0:decide (a0_0≤a1_0)=false:=decide_eq_false c3
  clear c3
  obtain rfl:=Option.some.inj H
  go_enter Try.func114,Try.ntmps114
  go_wp2_with (first|((with_reducible refine gate_dst (N:=2) rfl ?_);refine bx_ (N:=2) (cs:=#[.int .i64 a0_0, .int .i64 a0_1, .int .i64 a0_2]) (t:=37) ?_;intro gb1 hg w15 hbox hb;have BK1:=am_ (hbox);have GW1:=am_ ((zg0_ HB hg:w.heap.size≤gb1));have GE1:=am_ ((zg0_ HB hg:w.heap.size≤gb1));replace HB:=am_ (below_step (zl0_ HB) hb);clear hb hbox hg)|((with_reducible refine gate_dst (N:=3) rfl ?_);refine bx_ (N:=3) (cs:=#[.int .i64 a1_0, .int .i64 a1_1, .int .i64 a1_2]) (t:=37) ?_;intro gb2 hg w16 hbox hb;have BK2:=am_ (hbox);have GW2:=am_ ((zg1_ HB GE1 hg:w.heap.size≤gb2));have GE2:=am_ ((zg1_ HB GE1 hg:w.heap.size≤gb2));replace HB:=am_ (below_step (zl1_ HB GE1) hb);have NB1_2:=am_ ((zn_ BK1 hg:gb1≠gb2));have NB2_1:=am_ ((zm_ BK1 hg:gb2≠gb1));replace BK1:=am_ (blk_below (zb_ BK1) hb);clear hb hbox hg;have hnb17:=NB1_2.out;have hnc17:=NB2_1.out;obtain ⟨hcz18_0,hcz18_1,hcz18_2,hfz18_0,hfz18_1,hfz18_2⟩:=y3_ BK1;obtain ⟨hcz19_0,hcz19_1,hcz19_2⟩:=x3_ BK2;have hfz19_0:=blk_frozen BK2.out 0;have hfz19_1:=blk_frozen BK2.out 1;have hfz19_2:=blk_frozen BK2.out 2))
  go_ret
  exact ⟨by first|rfl|(simp [errW_none,errW_some]<;>rfl)|(simp [*,errW_none,errW_some]<;>rfl),zl2_ HB GE1 GE2⟩

 rw [if_pos c3] at H
 have c3b0:decide (a0_0≤a1_0)=true:=decide_eq_true c3
 clear c3
 by_cases c4:a0_1≤a1_1
 ·rw [if_pos c4] at H
  have c4b0:decide (a0_1≤a1_1)=true:=decide_eq_true c4
  clear c4
  obtain rfl:=Option.some.inj H
  go_enter Try.func114,Try.ntmps114
  go_wp2_with (first|((with_reducible refine gate_dst (N:=2) rfl ?_);refine bx_ (N:=2) (cs:=#[.int .i64 a0_0, .int .i64 a0_1, .int .i64 a0_2]) (t:=37) ?_;intro gb1 hg w5 hbox hb;have BK1:=am_ (hbox);have GW1:=am_ ((zg0_ HB hg:w.heap.size≤gb1));have GE1:=am_ ((zg0_ HB hg:w.heap.size≤gb1));replace HB:=am_ (below_step (zl0_ HB) hb);clear hb hbox hg)|((with_reducible refine gate_dst (N:=3) rfl ?_);refine bx_ (N:=3) (cs:=#[.int .i64 a1_0, .int .i64 a1_1, .int .i64 a1_2]) (t:=37) ?_;intro gb2 hg w6 hbox hb;have BK2:=am_ (hbox);have GW2:=am_ ((zg1_ HB GE1 hg:w.heap.size≤gb2));have GE2:=am_ ((zg1_ HB GE1 hg:w.heap.size≤gb2));replace HB:=am_ (below_step (zl1_ HB GE1) hb);have NB1_2:=am_ ((zn_ BK1 hg:gb1≠gb2));have NB2_1:=am_ ((zm_ BK1 hg:gb2≠gb1));replace BK1:=am_ (blk_below (zb_ BK1) hb);clear hb hbox hg;have hnb7:=NB1_2.out;have hnc7:=NB2_1.out;obtain ⟨hcz8_0,hcz8_1,hcz8_2,hfz8_0,hfz8_1,hfz8_2⟩:=y3_ BK1;obtain ⟨hcz9_0,hcz9_1,hcz9_2⟩:=x3_ BK2;have hfz9_0:=blk_frozen BK2.out 0;have hfz9_1:=blk_frozen BK2.out 1;have hfz9_2:=blk_frozen BK2.out 2))
  go_ret
  exact ⟨by first|rfl|(simp [errW_none,errW_some]<;>rfl)|(simp [*,errW_none,errW_some]<;>rfl),zl2_ HB GE1 GE2⟩
 rw [if_neg c4] at H
 have c4b0:decide (a0_1≤a1_1)=false:=decide_eq_false c4
 clear c4
 obtain rfl:=Option.some.inj H
 go_enter Try.func114,Try.ntmps114
 go_wp2_with (first|((with_reducible refine gate_dst (N:=2) rfl ?_);refine bx_ (N:=2) (cs:=#[.int .i64 a0_0, .int .i64 a0_1, .int .i64 a0_2]) (t:=37) ?_;intro gb1 hg w10 hbox hb;have BK1:=am_ (hbox);have GW1:=am_ ((zg0_ HB hg:w.heap.size≤gb1));have GE1:=am_ ((zg0_ HB hg:w.heap.size≤gb1));replace HB:=am_ (below_step (zl0_ HB) hb);clear hb hbox hg)|((with_reducible refine gate_dst (N:=3) rfl ?_);refine bx_ (N:=3) (cs:=#[.int .i64 a1_0, .int .i64 a1_1, .int .i64 a1_2]) (t:=37) ?_;intro gb2 hg w11 hbox hb;have BK2:=am_ (hbox);have GW2:=am_ ((zg1_ HB GE1 hg:w.heap.size≤gb2));have GE2:=am_ ((zg1_ HB GE1 hg:w.heap.size≤gb2));replace HB:=am_ (below_step (zl1_ HB GE1) hb);have NB1_2:=am_ ((zn_ BK1 hg:gb1≠gb2));have NB2_1:=am_ ((zm_ BK1 hg:gb2≠gb1));replace BK1:=am_ (blk_below (zb_ BK1) hb);clear hb hbox hg;have hnb12:=NB1_2.out;have hnc12:=NB2_1.out;obtain ⟨hcz13_0,hcz13_1,hcz13_2,hfz13_0,hfz13_1,hfz13_2⟩:=y3_ BK1;obtain ⟨hcz14_0,hcz14_1,hcz14_2⟩:=x3_ BK2;have hfz14_0:=blk_frozen BK2.out 0;have hfz14_1:=blk_frozen BK2.out 1;have hfz14_2:=blk_frozen BK2.out 2))
 go_ret
 exact ⟨by first|rfl|(simp [errW_none,errW_some]<;>rfl)|(simp [*,errW_none,errW_some]<;>rfl),zl2_ HB GE1 GE2⟩
def vec_Most.f:Option (Int×Int×Int):=some (1099511627776,1099511627776,1099511627776)
set_option maxHeartbeats 8000000 in
set_option maxRecDepth 100000 in
theorem vec_Most.calls (r1:Int) (r2:Int) (r3:Int) (w:World) (h:vec_Most.f=some (r1,r2,r3)):
  Calls Try.prog 125 #[] w fun e w'=>e= .returned (.agg #[.int .i64 r1, .int .i64 r2, .int .i64 r3])∧Below w.heap.size w w':=by
 have hu37:=Try.underlying37
 have HB:=am_ (Below.refl w.heap.size w)
 have H:(some (1099511627776,1099511627776,1099511627776))=some (r1,r2,r3):=h
 clear h
 simp only [Option.some.injEq,Prod.mk.injEq] at H
 obtain ⟨rfl,rfl,rfl⟩:=H
 go_enter Try.func125,Try.ntmps125
 go_wp2_with (first|((with_reducible refine gate_dst (N:=0) rfl ?_);refine bx_ (N:=0) (cs:=#[.int .i64 0, .int .i64 0, .int .i64 0]) (t:=37) ?_;intro gb1 hg w1 hbox hb;have BK1:=am_ (hbox);have GW1:=am_ ((zg0_ HB hg:w.heap.size≤gb1));have GE1:=am_ ((zg0_ HB hg:w.heap.size≤gb1));replace HB:=am_ (below_step (zl0_ HB) hb);clear hb hbox hg;obtain ⟨hcz2_0,hcz2_1,hcz2_2⟩:=x3_ BK1;have hfz2_0:=blk_frozen BK1.out 0;have hfz2_1:=blk_frozen BK1.out 1;have hfz2_2:=blk_frozen BK1.out 2))
 refine bodyPost_ret (results_cell_row rfl _ _ gb1 37 #[.int .i64 1099511627776, .int .i64 1099511627776, .int .i64 1099511627776] (0,0) _ rfl (zw_ BK1) Try.underlying37 rfl (by kernel_rfl)) rfl ?_
 exact ⟨by first|rfl|(simp [errW_none,errW_some]<;>rfl)|(simp [*,errW_none,errW_some]<;>rfl),zl1_ HB GE1⟩

def vec_May.f (a0_0:Int) (a0_1:Int) (a0_2:Int):Option (Bool):=(vec_Le.f 0 0 0 a0_0 a0_1 a0_2).bind fun t2=>(if t2=true then ((vec_Most.f).bind fun bt3=>((vec_Le.f a0_0 a0_1 a0_2 bt3.1 bt3.2.1 bt3.2.2).bind fun t6=>(some t6))) else (some false))
def vec_May.T1:Bool×List (List Nat×List Nat):=(true,[([],[]),([],[]),([0,1],[0,1]),([2,2],[2]),([3],[3]),([3,3],[3]),([4,5,5,3],[3,4,5]),([3,6],[3,6]),([7,6,0,1,2,3,4,5,6,7],[7])])
def vec_May.B1:List Nat:=[0,0,3,7,15,15,63,127,255]
theorem vec_May.tab1:rtab .any (opsOf Try.f111 1)=vec_May.T1:=by kernel_rfl
theorem vec_May.bits1:waitsOk vec_May.T1.2 vec_May.B1=true:=by kernel_rfl
set_option maxHeartbeats 8000000 in
set_option maxRecDepth 100000 in
theorem vec_May.calls (a0_0:Int) (a0_1:Int) (a0_2:Int) (r:Bool) (w:World) (h:vec_May.f a0_0 a0_1 a0_2=some r):
  Calls Try.prog 111 #[.agg #[.int .i64 a0_0, .int .i64 a0_1, .int .i64 a0_2]] w fun e w'=>e= .returned (.bool r)∧Below w.heap.size w w':=by
 have hu37:=Try.underlying37
 have HB:=am_ (Below.refl w.heap.size w)
 have H:((vec_Le.f 0 0 0 a0_0 a0_1 a0_2).bind fun t2=>(if t2=true then ((vec_Most.f).bind fun bt3=>((vec_Le.f a0_0 a0_1 a0_2 bt3.1 bt3.2.1 bt3.2.2).bind fun t6=>(some t6))) else (some false)))=some r:=h
 clear h
 replace H:=Option.bind_eq_some_iff.mp H
 obtain ⟨t2,A20,H⟩:=H
 try dsimp only at H
 have A2:=Aside0.mk A20
 clear A20
 by_cases c3:t2=true
 rotate_left
 ·replace c3:=Bool.eq_false_iff.mpr c3
  subst c3
  have H1:(some false)=some r:=by rw [if_neg (show¬(false=true) by decide)] at H;exact H
  clear H
  have H:=H1
  clear H1
  obtain rfl:=Option.some.inj H
  go_enter Try.func111,Try.ntmps111
  try go_wp2_with (first|((with_reducible refine gate_dst (N:=1) rfl ?_);refine bx_ (N:=1) (cs:=#[.int .i64 a0_0, .int .i64 a0_1, .int .i64 a0_2]) (t:=37) ?_;intro gb1 hg w11 hbox hb;have BK1:=am_ (hbox);have GW1:=am_ ((zg0_ HB hg:w.heap.size≤gb1));have GE1:=am_ ((zg0_ HB hg:w.heap.size≤gb1));replace HB:=am_ (below_step (zl0_ HB) hb);clear hb hbox hg))
  replace BK1:=am_ (blk_drew BK1.out)
  replace HB:=am_ (below_drew1 HB.out)
  refine start_ (n:=9) (S:=fun w'=>w'.cell? ⟨gb1,0,none⟩=some (.int .i64 a0_0)∧w'.cell? ⟨gb1,1,none⟩=some (.int .i64 a0_1)∧w'.cell? ⟨gb1,2,none⟩=some (.int .i64 a0_2)) (ds:=[]) (bt_ 9 0) (by kernel_rfl) rfl rfl ⟨(blk_cell BK1.out 0).trans rfl,(blk_cell BK1.out 1).trans rfl,(blk_cell BK1.out 2).trans rfl⟩ (fun hHeld=> ?_);refine with_tabW vec_May.tab1 vec_May.bits1 (fun HT_ HW_=> ?_)
  generalize w11.drew=w12 at BK1 HB hHeld ⊢
  refine pu_ (i:=0) (N:=some 3) (bt_ 9 1) HT_ ?_
  refine tk_ (i:=1) (N:=some 4) (bt_ 9 3) HT_ HW_ hHeld ?_
  refine on_ (i:=2) (N:=some 5) (bt_ 9 7) HT_ (fun K hK=> ?_)
  refine gs_ Try.func114 #[.agg #[.int .i64 0, .int .i64 0, .int .i64 0], .agg #[.int .i64 a0_0, .int .i64 a0_1, .int .i64 a0_2]] ?_
  with_reducible refine (vec_Le.calls 0 0 0 a0_0 a0_1 a0_2 false _ A2.out).mono ?_
  rintro e w13 ⟨rfl,hb⟩
  refine ⟨_,rfl, ?_⟩
  replace BK1:=am_ (blk_below (zb_ BK1) hb)
  replace HB:=am_ (below_step (zl1_ HB GE1) hb)
  (try clear hb)
  (try clear hb2)
  (try clear hk)
  (try clear hi)
  refine hK.out _ _ ⟨(blk_cell BK1.out 0).trans rfl,(blk_cell BK1.out 1).trans rfl,(blk_cell BK1.out 2).trans rfl⟩ (fun hHeld=> ?_)
  clear hK K
  refine no_ (N:=some 5) ?_
  refine pu_ (i:=3) (N:=some 6) (bt_ 9 15) HT_ ?_
  refine pn_ (i:=4) (N:=some 7) (bt_ 9 31) HT_ ?_
  refine pn_ (i:=5) (N:=some 8) (bt_ 9 63) HT_ ?_
  refine pn_ (i:=6) (N:=some 9) (bt_ 9 127) HT_ ?_
  refine pu_ (i:=7) (N:=some 10) (bt_ 9 255) HT_ ?_
  refine pu_ (i:=8) (N:=some 2) (bt_ 9 511) HT_ ?_
  refine done_ (done_of HT_.out (by kernel_rfl)) ?_
  try go_wp2
  go_ret
  exact ⟨by first|rfl|(simp [errW_none,errW_some]<;>rfl)|(simp [*,errW_none,errW_some]<;>rfl),zl1_ HB GE1⟩

 subst c3
 have H1:((vec_Most.f).bind fun bt3=>((vec_Le.f a0_0 a0_1 a0_2 bt3.1 bt3.2.1 bt3.2.2).bind fun t6=>(some t6)))=some r:=by rw [if_pos rfl] at H;exact H
 clear H
 have H:=H1
 clear H1
 replace H:=Option.bind_eq_some_iff.mp H
 obtain ⟨⟨t3,t4,t5⟩,A40,H⟩:=H
 try dsimp only at H
 have A4:=Aside0.mk A40
 clear A40
 replace H:=Option.bind_eq_some_iff.mp H
 obtain ⟨t6,A50,H⟩:=H
 try dsimp only at H
 have A5:=Aside0.mk A50
 clear A50
 obtain rfl:=Option.some.inj H
 go_enter Try.func111,Try.ntmps111
 try go_wp2_with (first|((with_reducible refine gate_dst (N:=1) rfl ?_);refine bx_ (N:=1) (cs:=#[.int .i64 a0_0, .int .i64 a0_1, .int .i64 a0_2]) (t:=37) ?_;intro gb1 hg w6 hbox hb;have BK1:=am_ (hbox);have GW1:=am_ ((zg0_ HB hg:w.heap.size≤gb1));have GE1:=am_ ((zg0_ HB hg:w.heap.size≤gb1));replace HB:=am_ (below_step (zl0_ HB) hb);clear hb hbox hg))
 replace BK1:=am_ (blk_drew BK1.out)
 replace HB:=am_ (below_drew1 HB.out)
 refine start_ (n:=9) (S:=fun w'=>w'.cell? ⟨gb1,0,none⟩=some (.int .i64 a0_0)∧w'.cell? ⟨gb1,1,none⟩=some (.int .i64 a0_1)∧w'.cell? ⟨gb1,2,none⟩=some (.int .i64 a0_2)) (ds:=[]) (bt_ 9 0) (by kernel_rfl) rfl rfl ⟨(blk_cell BK1.out 0).trans rfl,(blk_cell BK1.out 1).trans rfl,(blk_cell BK1.out 2).trans rfl⟩ (fun hHeld=> ?_);refine with_tabW vec_May.tab1 vec_May.bits1 (fun HT_ HW_=> ?_)
 generalize w6.drew=w7 at BK1 HB hHeld ⊢
 refine pu_ (i:=0) (N:=some 3) (bt_ 9 1) HT_ ?_
 refine tk_ (i:=1) (N:=some 4) (bt_ 9 3) HT_ HW_ hHeld ?_
 refine on_ (i:=2) (N:=some 5) (bt_ 9 7) HT_ (fun K hK=> ?_)
 refine gs_ Try.func114 #[.agg #[.int .i64 0, .int .i64 0, .int .i64 0], .agg #[.int .i64 a0_0, .int .i64 a0_1, .int .i64 a0_2]] ?_
 with_reducible refine (vec_Le.calls 0 0 0 a0_0 a0_1 a0_2 true _ A2.out).mono ?_
 rintro e w8 ⟨rfl,hb⟩
 refine ⟨_,rfl, ?_⟩
 replace BK1:=am_ (blk_below (zb_ BK1) hb)
 replace HB:=am_ (below_step (zl1_ HB GE1) hb)
 (try clear hb)
 (try clear hb2)
 (try clear hk)
 (try clear hi)
 refine hK.out _ _ ⟨(blk_cell BK1.out 0).trans rfl,(blk_cell BK1.out 1).trans rfl,(blk_cell BK1.out 2).trans rfl⟩ (fun hHeld=> ?_)
 clear hK K
 refine no_ (N:=some 5) ?_
 refine pu_ (i:=3) (N:=some 6) (bt_ 9 15) HT_ ?_
 refine tk_ (i:=4) (N:=some 7) (bt_ 9 31) HT_ HW_ hHeld ?_
 refine on_ (i:=5) (N:=some 8) (bt_ 9 63) HT_ (fun K hK=> ?_)
 refine gs_ Try.func125 #[] ?_
 with_reducible refine (vec_Most.calls t3 t4 t5 _ A4.out).mono ?_
 rintro e w9 ⟨rfl,hb⟩
 refine ⟨_,rfl, ?_⟩
 replace BK1:=am_ (blk_below (zb_ BK1) hb)
 replace HB:=am_ (below_step (zl1_ HB GE1) hb)
 (try clear hb)
 (try clear hb2)
 (try clear hk)
 (try clear hi)
 refine hK.out _ _ ⟨(blk_cell BK1.out 0).trans rfl,(blk_cell BK1.out 1).trans rfl,(blk_cell BK1.out 2).trans rfl⟩ (fun hHeld=> ?_)
 clear hK K
 refine no_ (N:=some 8) ?_
 refine on_ (i:=6) (N:=some 9) (bt_ 9 127) HT_ (fun K hK=> ?_)
 refine gs_ Try.func114 #[.agg #[.int .i64 a0_0, .int .i64 a0_1, .int .i64 a0_2], .agg #[.int .i64 t3, .int .i64 t4, .int .i64 t5]] ?_
 with_reducible refine (vec_Le.calls a0_0 a0_1 a0_2 t3 t4 t5 t6 _ A5.out).mono ?_
 rintro e w10 ⟨rfl,hb⟩
 refine ⟨_,rfl, ?_⟩
 replace BK1:=am_ (blk_below (zb_ BK1) hb)
 replace HB:=am_ (below_step (zl1_ HB GE1) hb)
 (try clear hb)
 (try clear hb2)
 (try clear hk)
 (try clear hi)
 refine hK.out _ _ ⟨(blk_cell BK1.out 0).trans rfl,(blk_cell BK1.out 1).trans rfl,(blk_cell BK1.out 2).trans rfl⟩ (fun hHeld=> ?_)
 clear hK K
 refine no_ (N:=some 9) ?_
 refine pu_ (i:=7) (N:=some 10) (bt_ 9 255) HT_ ?_
 refine pu_ (i:=8) (N:=some 2) (bt_ 9 511) HT_ ?_
 refine done_ (done_of HT_.out (by kernel_rfl)) ?_
 try go_wp2
 go_ret
 exact ⟨by first|rfl|(simp [errW_none,errW_some]<;>rfl)|(simp [*,errW_none,errW_some]<;>rfl),zl1_ HB GE1⟩
end Go.Proofs.Ytahidkjncljkaaa.Print

namespace Go.Proofs.Ytahidkjncljkaaa.Print
open Go.RowKit Go.Proofs.YtahidkjncljkaaaW.PrintWords Go.Proofs.YtahidkjncljkaaaW.PrintLast Go.Proofs.YtahidkjncljkaaaW.PrintMore
section
variable {P:Program} {ops:Array Oper} {rest:List Oper} {o:Oper} {a:Act} {Q:Exit→Act→World→Prop} {Kc:Act→World→Prop} {W:World}
theorem put_run {gb e:Nat} {zs:Array Value} (hh:W.heap[gb]?=some (.cells zs e (0,0))) (t:TypeId) (u:Value) (off:Nat) (seg:List Value) (hu:u.cells.toList=seg) (ht:(P.info? t).map (·.size)=some seg.length) (hfit:off+seg.length≤zs.size) (h1: ∀q∈seg,q.oneCell'=true):
  ∃w' cur,(Instr.storeAt t (.pointer (some ⟨gb,off,none⟩)) u).run P W= .ok () w'∧w'.heap[gb]?=some (.cells cur e (0,0))∧cur.size=zs.size∧cur.toList=zs.toList.take off++seg++zs.toList.drop (off+seg.length)∧W.grownBy w' (some gb):=by
 have hrun:=run_store_run (P:=P) t u seg hh hu ht (o:=off) hfit h1
 obtain ⟨cur,hc,hs,hl⟩:=setCells_row seg off W zs hh hfit
 obtain ⟨s1,s2,s3,s4⟩:=setCells_same gb seg off W
 exact ⟨_,cur,hrun,hc,hs,hl,⟨s1,s2,s3,by rw [s4];exact Nat.le_refl _,fun k hk hne=>setCells_far seg off k (by rintro rfl;exact hne rfl)⟩⟩
theorem store_all {gb e:Nat} {zs:Array Value} (hh:W.heap[gb]?=some (.cells zs e (0,0))) (t:TypeId) (p x:Operand) (ho:o.op= .store t p x) (hN:o.dst=none) (hgd:o.guard=none) (u:Value) (seg:List Value)
  (hp:a.eval p= .pointer (some ⟨gb,0,none⟩)) (hx:a.eval x=u) (hu:u.cells.toList=seg) (ht:(P.info? t).map (·.size)=some seg.length) (hz:zs.size=seg.length) (h1: ∀q∈seg,q.oneCell'=true)
  (h: ∀w',w'.heap[gb]?=some (.cells seg.toArray e (0,0))→W.grownBy w' (some gb)→wpList P ops Q rest a w'):wpList P ops Q (o::rest) a W:=by
 obtain ⟨w',cur,hrun,hc,hs,hl,hg⟩:=put_run (P:=P) hh t u 0 seg hu ht (by omega) h1
 have e1:cur=seg.toArray:=by
  apply Array.ext'
  rw [hl,List.take_zero,List.nil_append,Nat.zero_add,List.drop_of_length_le (by simp [Array.length_toList];omega),List.append_nil]
 subst e1
 refine wpList_plain hgd fun K hK=> ?_
 unfold Oper.wp execOp
 simp only [ho,hp,hx,Sem.run_bind,Sem.run_pure,Result.andThen_ok,hrun]
 show K (a.put o.dst undef) _
 rw [hN]
 exact hK a _ (h _ hc hg)
theorem store_part {gb e:Nat} {zs:Array Value} (hh:W.heap[gb]?=some (.cells zs e (0,0))) (t:TypeId) (p x:Operand) (ho:o.op= .store t p x) (hN:o.dst=none) (hgd:o.guard=none) (off:Nat) (u:Value) (seg new:List Value)
  (hp:a.eval p= .pointer (some ⟨gb,off,none⟩)) (hx:a.eval x=u) (hu:u.cells.toList=seg) (ht:(P.info? t).map (·.size)=some seg.length) (hz:off+seg.length≤zs.size) (h1: ∀q∈seg,q.oneCell'=true) (hnew:zs.toList.take off++seg++zs.toList.drop (off+seg.length)=new)
  (h: ∀w',w'.heap[gb]?=some (.cells new.toArray e (0,0))→W.grownBy w' (some gb)→wpList P ops Q rest a w'):wpList P ops Q (o::rest) a W:=by
 obtain ⟨w',cur,hrun,hc,hs,hl,hg⟩:=put_run (P:=P) hh t u off seg hu ht hz h1
 have e1:cur=new.toArray:=by
  apply Array.ext'
  rw [hl,hnew]
 subst e1
 refine wpList_plain hgd fun K hK=> ?_
 unfold Oper.wp execOp
 simp only [ho,hp,hx,Sem.run_bind,Sem.run_pure,Result.andThen_ok,hrun]
 show K (a.put o.dst undef) _
 rw [hN]
 exact hK a _ (h _ hc hg)
end
theorem R_put {α:Type} {d:Kd α} {e base:Nat} {w w1:World} {v:Value} {xs:List α} (h:d.R e w base (fun _=>True) v xs) {g t:Nat} {cells:Array Value} (hb:w.heap[g]?=some (.cells cells t (0,0))) (ht: ∀q,q∈e::d.E→q≠t) (hg:w.grownBy w1 (some g)):d.R e w1 base (fun _=>True) v xs:=
 Kd.R_mono (Kd.R_grown (Kd.R_types h hb ht) hg (fun _ hk e=>hk.2 (Option.some.inj e))) (fun _ _=>trivial)
theorem below_put {a w w1:World} {base g:Nat} (h:Below base a w) (hb:base≤w.heap.size) (hg:w.grownBy w1 (some g)) (hge:base≤g):Below base a w1:=pw_below_grown h (some g) hb hg (fun k e=>by cases e;exact hge)
theorem blk_put_other {w w1:World} {g k:Nat} {ob:Obj} (h:w.heap[k]?=some ob) (hg:w.grownBy w1 (some g)) (hne:k≠g):w1.heap[k]?=some ob:=by
  rw [hg.block k (by
    rcases Nat.lt_or_ge k w.heap.size with hl|hl
    · exact hl
    rw [Array.getElem?_eq_none hl] at h;cases h) (by intro e;cases e;exact hne rfl)]
  exact h
end Go.Proofs.Ytahidkjncljkaaa.Print

namespace Go.Proofs.Ytahidkjncljkaaa.Print
open Go.RowKit Go.Proofs.YtahidkjncljkaaaW.PrintWords Go.Proofs.YtahidkjncljkaaaW.PrintLast Go.Proofs.YtahidkjncljkaaaW.PrintMore
attribute [local go_sem] max2_int min2_int max_two min_two max_three min_three max_four min_four

end Go.Proofs.Ytahidkjncljkaaa.Print

namespace Go.Proofs.Ytahidkjncljkaaa.Print
open Go.RowKit Go.Proofs.YtahidkjncljkaaaW.PrintWords Go.Proofs.YtahidkjncljkaaaW.PrintLast
abbrev Item:=S79
abbrev Vec:=S37
instance baLawful:LawfulBEq ByteArray where
 eq_of_beq {a b} h:=by
  obtain ⟨a⟩:=a
  obtain ⟨b⟩:=b
  have:(a==b)=true:=h
  rw [eq_of_beq this]
 rfl {a}:=by
  obtain ⟨a⟩:=a
  show (a==a)=true
  exact beq_self_eq_true a
theorem nm_inj {a b:ByteArray}:a.toList=b.toList↔a=b:=by
  constructor
  rotate_left
  · rintro rfl;rfl
  intro h
  rw [ByteArray.toList_eq,ByteArray.toList_eq] at h
  exact ByteArray.ext (Array.toList_inj.1 h)
theorem nm_beq (a b:ByteArray):(a.toList==b.toList)=decide (a=b):=by
 rw [Bool.eq_iff_iff,beq_iff_eq,nm_inj,decide_eq_true_iff]
theorem Ev.const {α:Type} {g:Option α} {r:α} (h:g=some r):Ev (fun _=>g) r:=⟨0,fun _ _=>h⟩
theorem w64 {n:Int} (h0: -9223372036854775808≤n) (h1:n≤9223372036854775807):wrap64 n=n:=by unfold wrap64;omega
def look (l:List Item) (n:ByteArray):Option Item:=l.find? (fun x=>x.f0=n)
theorem fidx_none {α:Type} {p:α→Bool}: ∀{l:List α} {i:Int},(∀x∈l,p x=false)→fidx p l i= -1
  |[],_,_=>rfl
  | x :: l, i, h => by
    unfold fidx
    rw [if_neg (by rw [h x (by simp)];simp)]
    exact fidx_none (fun y hy=>h y (by simp [hy]))
theorem fidx_some {α:Type} {p:α→Bool} (z:α): ∀{l:List α} {i:Int} {x:α},l.find? p=some x→ ∃j:Nat,j<l.length∧fidx p l i=i+j∧l.getD j z=x∧p x=true∧ ∀m,m<j→p (l.getD m z)=false
  |[],_,_,h=>by simp at h
  | y :: l, i, x, h => by
    unfold fidx
    by_cases hy:p y=true
    · rw [if_pos hy]
      simp only [List.find?_cons,hy] at h
      obtain rfl:=Option.some.inj h
      exact ⟨0,by simp,by simp,by simp,hy,fun m hm=>by omega⟩
    rw [if_neg hy]
    have hy':p y=false:=by simpa using hy
    simp only [List.find?_cons,hy'] at h
    obtain ⟨j,hj,h1,h2,h3,h4⟩:=fidx_some z (i:=i+1) h
    refine ⟨j+1,by simp;omega,by rw [h1];omega,by simpa using h2,h3,fun m hm=> ?_⟩
    cases m with
    |zero=>simpa using hy'
    |succ m=>simpa using h4 m (by omega)
theorem look_mem {l:List Item} {n:ByteArray} {x:Item} (h:look l n=some x):x∈l∧x.f0=n:=by
 unfold look at h
 exact ⟨List.mem_of_find?_eq_some h,by simpa using List.find?_some h⟩
inductive Chain (l:List Item):ByteArray→List ByteArray→Prop where
 |nil {n:ByteArray}:look l n=none→Chain l n []
 |cons {n:ByteArray} {x:Item} {us:List ByteArray}:look l n=some x→Chain l x.f1 us→Chain l n (n::us)
def upGo (l:List Item):Nat→ByteArray→List ByteArray
  |0,_=> []
  | m + 1, n => match look l n with
    |none=> []
    |some x=>n::upGo l m x.f1
def up (l:List Item) (n:ByteArray):List ByteArray:=upGo l (l.length+1) n
theorem upGo_none {l:List Item} {n:ByteArray} (h:look l n=none) (m:Nat):upGo l m n=[]:=by
 cases m with
 |zero=>rfl
 |succ m=>unfold upGo;rw [h]
theorem upGo_some {l:List Item} {n:ByteArray} {x:Item} (h:look l n=some x) (m:Nat):upGo l (m+1) n=n::upGo l m x.f1:=by
 rw [upGo.eq_2,h]
theorem Chain.det {l:List Item} {n:ByteArray} {us:List ByteArray} (h:Chain l n us): ∀{vs:List ByteArray},Chain l n vs→us=vs:=by
  induction h with
  | nil h =>
    intro vs k
    cases k with
    |nil _=>rfl
    |cons k _=>rw [h] at k;cases k
  | cons h _ ih =>
    intro vs k
    cases k with
    |nil k=>rw [h] at k;cases k
    | cons k k2 =>
      rw [h] at k
      cases k
      rw [ih k2]
theorem Chain.upGo {l:List Item} {n:ByteArray} {us:List ByteArray} (h:Chain l n us): ∀m,us.length≤m→upGo l m n=us:=by
  induction h with
  |nil h=>intro m _;exact upGo_none h m
  | cons h _ ih =>
    intro m hm
    cases m with
    |zero=>simp at hm
    | succ m =>
      rw [upGo_some h,ih m (by simpa using hm)]
theorem Chain.suffix {l:List Item} {n:ByteArray} {us:List ByteArray} (h:Chain l n us): ∀{m:ByteArray},m∈us→ ∃vs ws,us=ws++vs∧Chain l m vs∧ ∃vt,vs=m::vt:=by
  induction h with
  |nil _=>intro m hm;cases hm
  | @cons n x us h k ih =>
    intro m hm
    rcases List.mem_cons.1 hm with rfl|hm
    · exact ⟨_,[],rfl, .cons h k,_,rfl⟩
    obtain ⟨vs,ws,e,hc,he⟩:=ih hm
    exact ⟨vs,n::ws,by rw [e];rfl,hc,he⟩
theorem Chain.mem_look {l:List Item} {n:ByteArray} {us:List ByteArray} (h:Chain l n us) {m:ByteArray} (hm:m∈us): ∃x,look l m=some x:=by
 obtain ⟨vs,ws,_,hc,vt,rfl⟩:=h.suffix hm
 cases hc with
 |cons h _=>exact ⟨_,h⟩
theorem Chain.nodup {l:List Item} {n:ByteArray} {us:List ByteArray} (h:Chain l n us):us.Nodup:=by
  induction h with
  |nil _=>simp
  | @cons n x us h k ih =>
    rw [List.nodup_cons]
    refine ⟨fun hm=> ?_,ih⟩
    obtain ⟨vs,ws,e,hc,_⟩:=k.suffix hm
    have:=hc.det (.cons h k)
    rw [this] at e
    have:=congrArg List.length e
    simp at this
    omega
theorem Chain.len {l:List Item} {n:ByteArray} {us:List ByteArray} (h:Chain l n us):us.length≤l.length:=by
 have:=h.nodup.length_le_of_subset (l₂:=l.map (·.f0)) (fun m hm=>by
  obtain ⟨x,hx⟩:=h.mem_look hm
  obtain ⟨h1,rfl⟩:=look_mem hx
  exact List.mem_map_of_mem h1)
 simpa using this
theorem Chain.up {l:List Item} {n:ByteArray} {us:List ByteArray} (h:Chain l n us):up l n=us:=h.upGo _ (by have:=h.len;omega)
def lt (a b:ByteArray):Bool:=Op.bytesLess a.toList b.toList
theorem bl_irrefl: ∀a:List UInt8,Op.bytesLess a a=false
 |[]=>rfl
 |x::a=>by unfold Op.bytesLess;simp [bl_irrefl a]
theorem bl_trans: ∀{a b c:List UInt8},Op.bytesLess a b=true→Op.bytesLess b c=true→Op.bytesLess a c=true
  |[],[],_,h,_=>by simp [Op.bytesLess] at h
  |[],_::_,[],_,k=>by simp [Op.bytesLess] at k
  |[],_::_,_::_,_,_=>by simp [Op.bytesLess]
  |_::_,[],_,h,_=>by simp [Op.bytesLess] at h
  |_::_,_::_,[],_,k=>by simp [Op.bytesLess] at k
  | x :: a, y :: b, z :: c, h, k => by
    simp only [Op.bytesLess,Bool.or_eq_true,Bool.and_eq_true,decide_eq_true_eq,beq_iff_eq] at h k ⊢
    rcases h with h|⟨rfl,h⟩
    · rcases k with k | ⟨rfl, k⟩
      · exact .inl (UInt8.lt_trans h k)
      exact .inl h
    rcases k with k|⟨rfl,k⟩
    · exact .inl k
    exact .inr ⟨rfl,bl_trans h k⟩
theorem bl_total: ∀{a b:List UInt8},Op.bytesLess a b=false→a≠b→Op.bytesLess b a=true
  |[],[],_,h=>absurd rfl h
  |[],_::_,h,_=>by simp [Op.bytesLess] at h
  |_::_,[],_,_=>by simp [Op.bytesLess]
  | x :: a, y :: b, h, k => by
    simp only [Op.bytesLess,Bool.or_eq_true,Bool.or_eq_false_iff,Bool.and_eq_false_iff,Bool.and_eq_true,decide_eq_true_eq,decide_eq_false_iff_not,beq_iff_eq,beq_eq_false_iff_ne] at h ⊢
    obtain ⟨h1,h2⟩:=h
    by_cases e:x=y
    · subst e
      rcases h2 with h2|h2
      · exact absurd rfl h2
      exact .inr ⟨rfl,bl_total h2 (fun e=>k (by rw [e]))⟩
    left
    have h3: ¬x.toNat<y.toNat:=by rwa [←UInt8.lt_iff_toNat_lt]
    have h4:x.toNat≠y.toNat:=fun q=>e (UInt8.toNat_inj.1 q)
    rw [UInt8.lt_iff_toNat_lt];omega
theorem lt_irrefl (a:ByteArray):lt a a=false:=bl_irrefl _
theorem lt_trans {a b c:ByteArray} (h:lt a b=true) (k:lt b c=true):lt a c=true:=bl_trans h k
theorem lt_total {a b:ByteArray} (h:lt a b=false) (k:a≠b):lt b a=true:=bl_total h (fun e=>k (nm_inj.1 e))
theorem lt_ne {a b:ByteArray} (h:lt a b=true):a≠b:=by rintro rfl;rw [lt_irrefl] at h;cases h
inductive Comp where|cpu|mem|pods
def Comp.of:Comp→Vec→Int| .cpu,v=>v.f0| .mem,v=>v.f1| .pods,v=>v.f2
def vadd (a b:Vec):Vec:=⟨a.f0+b.f0,a.f1+b.f1,a.f2+b.f2⟩
theorem of_vadd (c:Comp) (a b:Vec):c.of (vadd a b)=c.of a+c.of b:=by cases c<;>rfl
def MayP (v:Vec):Prop:= ∀c:Comp,0≤c.of v∧c.of v≤1099511627776
def LeP (a b:Vec):Prop:= ∀c:Comp,c.of a≤c.of b
theorem comp_all {p:Comp→Prop}:(∀c,p c)↔p .cpu∧p .mem∧p .pods:=
 ⟨fun h=>⟨h _,h _,h _⟩,fun ⟨a,b,d⟩ c=>by cases c<;>assumption⟩
instance (v:Vec):Decidable (MayP v):=decidable_of_iff _ comp_all.symm
instance (a b:Vec):Decidable (LeP a b):=decidable_of_iff _ comp_all.symm
theorem mayP_iff {a b d:Int}:MayP ⟨a,b,d⟩↔(0≤a∧a≤1099511627776)∧(0≤b∧b≤1099511627776)∧(0≤d∧d≤1099511627776):=comp_all
theorem leP_iff {a b d a' b' d':Int}:LeP ⟨a,b,d⟩ ⟨a',b',d'⟩↔a≤a'∧b≤b'∧d≤d':=comp_all
def sumBy (g:Item→Int) (l:List Item):Int:=(l.map g).sum
def csum (c:Comp) (l:List Item) (n:ByteArray):Int:=sumBy (fun y=>if y.f1=n then c.of y.f4 else 0) l
structure ItemOK (x:Item):Prop where
 name:x.f0≠⟨#[]⟩
 size:x.f0.size≤24
 lim:MayP x.f2
 own:MayP x.f3
 sub:MayP x.f4
 fit:LeP x.f4 x.f2
 ver:1≤x.f5∧x.f5≤9007199254740992
structure RightP (l:List Item):Prop where
 len:l.length≤120
 ok: ∀x∈l,ItemOK x
 sorted:l.Pairwise (fun x y=>lt x.f0 y.f0=true)
 par: ∀x∈l,x.f1=⟨#[]⟩∨ ∃y,look l x.f1=some y
 sum: ∀c:Comp,∀x∈l,c.of x.f4=c.of x.f3+csum c l x.f0
 chain: ∀x∈l,∃us,Chain l x.f0 us
theorem sorted_nodup {l:List Item} (h:l.Pairwise (fun x y=>lt x.f0 y.f0=true)):(l.map (·.f0)).Nodup:=by
 rw [List.Nodup,List.pairwise_map]
 exact h.imp (fun hxy=>lt_ne hxy)
theorem RightP.nodup {l:List Item} (h:RightP l):(l.map (·.f0)).Nodup:=sorted_nodup h.sorted
theorem look_of_mem {l:List Item} (hn:(l.map (·.f0)).Nodup) {x:Item} (hx:x∈l):look l x.f0=some x:=by
  induction l with
  |nil=>cases hx
  | cons y l ih =>
    rw [List.map_cons,List.nodup_cons] at hn
    unfold look
    rw [List.find?_cons]
    rcases List.mem_cons.1 hx with rfl|hx
    · simp
    have:y.f0≠x.f0:=fun e=>hn.1 (by rw [e];exact List.mem_map_of_mem hx)
    simp only [this,decide_false]
    exact ih hn.2 hx
theorem RightP.look {l:List Item} (h:RightP l) {x:Item} (hx:x∈l):look l x.f0=some x:=look_of_mem h.nodup hx
end Go.Proofs.Ytahidkjncljkaaa.Print

namespace Go.Proofs.Ytahidkjncljkaaa.Print
open Go.RowKit Go.Proofs.YtahidkjncljkaaaW.PrintWords Go.Proofs.YtahidkjncljkaaaW.PrintLast Go.Proofs.YtahidkjncljkaaaW.PrintMore
theorem vec_Le_eq (a b d a' b' d':Int):vec_Le.f a b d a' b' d'=some (decide (LeP ⟨a,b,d⟩ ⟨a',b',d'⟩)):=by
 unfold vec_Le.f
 by_cases h0:a≤a'<;>by_cases h1:b≤b'<;>simp [h0,h1,leP_iff]
theorem vec_May_eq (a b d:Int):vec_May.f a b d=some (decide (MayP ⟨a,b,d⟩)):=by
  unfold vec_May.f vec_Most.f
  simp only [vec_Le_eq,Option.bind_some]
  by_cases h:LeP ⟨0,0,0⟩ ⟨a,b,d⟩
  · rw [if_pos (by exact decide_eq_true h)]
    congr 1
    rw [Bool.eq_iff_iff,decide_eq_true_iff,decide_eq_true_iff,mayP_iff,leP_iff]
    rw [leP_iff] at h
    constructor<;>intro k<;>omega
  rw [if_neg (by simpa using h)]
  congr 1
  symm
  rw [decide_eq_false_iff_not,mayP_iff]
  rw [leP_iff] at h
  omega
end Go.Proofs.Ytahidkjncljkaaa.Print

namespace Go.Proofs.Ytahidkjncljkaaa.Print
open Go.RowKit Go.Proofs.YtahidkjncljkaaaW.PrintWords Go.Proofs.YtahidkjncljkaaaW.PrintLast Go.Proofs.YtahidkjncljkaaaW.PrintMore
attribute [local go_sem] max2_int min2_int max_two min_two max_three min_three max_four min_four

theorem wnx {i:Nat} (h:i<100000000):wrap64 ((i:Int)+1)=((i+1:Nat):Int):=by unfold wrap64;omega
def wmay (w:S39):Bool:=decide (w.f0≠⟨#[]⟩∧w.f0.size≤24∧MayP w.f2)
def wnames (l:List S39):List S39→Int→Int
 |[],_=>0
 |w::ws,i=>if wmay w=true then (if wplace l w.f0=i then wnames l ws (i+1) else 3) else 1
theorem wnames_drop {l:List S39} {i:Nat} (h:i<l.length):wnames l (l.drop i) i=if wmay (rd_T39 l i)=true then (if wplace l (rd_T39 l i).f0=i then wnames l (l.drop (i+1)) ((i+1:Nat):Int) else 3) else 1:=by
 rw [List.drop_eq_getElem_cons h]
 have e:rd_T39 l (i:Int)=l[i]:=by
  show l.getD (i:Int).toNat _=_
  rw [Int.toNat_natCast,List.getD_eq_getElem?_getD,List.getElem?_eq_getElem h,Option.getD_some]
 rw [e]
 rfl
set_option maxHeartbeats 8000000 in
set_option maxRecDepth 100000 in
theorem wantNames_calls (A:Option Addr) (c:Nat) (l:List S39) (w:World) (hr:Kd.C k39 w A l.length l) (hc:l.length≤c) (hl:l.length≤1000000):
    Calls Try.prog 72 #[.agg #[.slice A l.length c]] w fun e w'=>e= .returned (.int .i64 (wnames l l 0))∧Below w.heap.size w w':=by
  have hu110:=Try.underlying110
  have hu39:=Try.underlying39
  have HR:=Aside0.mk hr
  have HC:=Aside0.mk hc
  have HB:=am_ (Below.refl w.heap.size w)
  clear hr hc
  go_enter Try.func72,Try.ntmps72
  go_wp2_with (first|((with_reducible refine gate_dst (N:=1) rfl ?_);refine bx_ (N:=1) (cs:=#[.slice A l.length c]) (t:=110) ?_;intro gb1 hg w1 hbox hb;have BK1:=am_ (hbox);have GE1:=am_ ((by rw [hg];exact below_size HB.out:w.heap.size≤gb1));replace HB:=am_ (below_step HB.out hb);have EQ1:=am_ (hg);clear hb hbox hg;have cgb1_0:=(blk_cell BK1.out 0).trans rfl))
  go_loopg [8] l.length (fun kq v8 w'=> ∃i:Nat,v8= .int .i64 i∧i≤l.length∧l.length - i≤kq∧Aside0 (Below w.heap.size w w')∧Aside0 (w'.heap[gb1]?=some (.cells #[.slice A l.length c] 110 (0,0)))∧Aside0 (wnames l l 0=wnames l (l.drop i) i))
  case atStart=>exact ⟨0,rfl,by omega,by omega,HB,BK1,⟨rfl⟩⟩
  case round=>
    clear HB BK1 cgb1_0
    obtain ⟨i,rfl,hil,hkq,HB,BK1,HF⟩:=hrel
    by_cases hlt:i<l.length
    rotate_left
    · obtain rfl : i = l.length := by omega
      go_wp2
      go_ret
      refine ⟨?_,HB.out⟩
      rw [HF.out,List.drop_length]
      rfl


    have hltz:(i:Int)<(l.length:Int):=by omega
    obtain ⟨x,hx⟩: ∃x:Int,x=(i:Int):=⟨_,rfl⟩
    have HX0:=am_ (show 0≤x by omega)
    have HX1:=am_ (show x<(l.length:Int) by omega)
    have HD:=am_ (wnames_drop hlt)
    rw [←hx] at HD
    have HXI:=Aside0.mk hx
    rw [←hx]
    have hltx:x<(l.length:Int):=HX1.out
    clear hltz hx
    have p6:0≤x:=HX0.out
    have q6:x<(l.length:Int):=HX1.out
    obtain ⟨ad,e6,k0,k1,k2,k3,k4⟩:=at_T39 HR.out x p6 q6
    cases e6
    have k0:=zx_ HB k0
    have k1:=zx_ HB k1
    have k2:=zx_ HB k2
    have k3:=zx_ HB k3
    have k4:=zx_ HB k4
    replace p6:=eq_true p6
    replace q6:=eq_true q6
    have BK1_:=BK1
    by_cases hm:wmay (rd_T39 l x)=true
    rotate_left
    · have HM := hm
      unfold wmay at HM
      rw [decide_eq_true_iff] at HM
      rw [if_neg hm] at HD
      clear hm
      have HMM:=Aside0.mk HM
      clear HM
      by_cases e1:(rd_T39 l x).f0.toList.isEmpty=true
      · go_wp2_with (first | ((with_reducible refine gate_dst (N := 4) rfl ?_); refine bx_ (N := 4) (cs := #[.string ⟨#[]⟩, .string ⟨#[]⟩, .int .i64 0, .int .i64 0, .int .i64 0]) (t := 39) ?_; intro gb4 hg w4 hbox hb; replace BK1 := am_ (blk_below BK1.out hb); have BK4 := am_ (hbox); have GE4 := am_ ((by rw [hg]; exact below_size HB.out : w.heap.size ≤ gb4)); replace HB := am_ (below_step HB.out hb); have EQ4 := am_ (hg); have NE := am_ (show gb1 ≠ gb4 from by have := blk_lt BK1_.out; rw [hg]; exact Nat.ne_of_lt this); clear hb hbox hg; have cgb4_0 := (blk_cell BK4.out 0).trans rfl; have cgb4_1 := (blk_cell BK4.out 1).trans rfl; have cgb4_2 := (blk_cell BK4.out 2).trans rfl; have cgb4_3 := (blk_cell BK4.out 3).trans rfl; have cgb4_4 := (blk_cell BK4.out 4).trans rfl) | ((with_reducible refine gate_store (t := 39) (p := 4) (v := .tmp 12) rfl ?_); refine store_all BK4.out 39 (.tmp 4) (.tmp 12) rfl rfl rfl (.agg #[.string (rd_T39 l x).f0, .string (rd_T39 l x).f1, .int .i64 (rd_T39 l x).f2.f0, .int .i64 (rd_T39 l x).f2.f1, .int .i64 (rd_T39 l x).f2.f2]) [.string (rd_T39 l x).f0, .string (rd_T39 l x).f1, .int .i64 (rd_T39 l x).f2.f0, .int .i64 (rd_T39 l x).f2.f1, .int .i64 (rd_T39 l x).f2.f2] rfl rfl rfl (by kernel_rfl) rfl (by intro q hq; simp only [List.mem_cons, List.not_mem_nil, or_false] at hq; rcases hq with rfl | rfl | rfl | rfl | rfl <;> rfl) ?_; intro w5 hbk hg; clear cgb4_0 cgb4_1 cgb4_2 cgb4_3 cgb4_4; replace BK1 := am_ (blk_put_other BK1.out hg (NE.out)); replace HB := am_ (below_put HB.out (below_size HB.out) hg GE4.out); replace BK4 := am_ (hbk); clear hbk hg; have cgb4_0 := (blk_cell BK4.out 0).trans rfl; have cgb4_1 := (blk_cell BK4.out 1).trans rfl; have cgb4_2 := (blk_cell BK4.out 2).trans rfl; have cgb4_3 := (blk_cell BK4.out 3).trans rfl; have cgb4_4 := (blk_cell BK4.out 4).trans rfl))
        go_ret
        exact ⟨by rw [HF.out,←HXI.out,HD.out];rfl,HB.out⟩
      replace e1:=Bool.eq_false_iff.mpr e1
      by_cases e2:(24:Int)<((rd_T39 l x).f0.size:Int)
      · go_wp2_with (first | ((with_reducible refine gate_dst (N := 4) rfl ?_); refine bx_ (N := 4) (cs := #[.string ⟨#[]⟩, .string ⟨#[]⟩, .int .i64 0, .int .i64 0, .int .i64 0]) (t := 39) ?_; intro gb4 hg w4 hbox hb; replace BK1 := am_ (blk_below BK1.out hb); have BK4 := am_ (hbox); have GE4 := am_ ((by rw [hg]; exact below_size HB.out : w.heap.size ≤ gb4)); replace HB := am_ (below_step HB.out hb); have EQ4 := am_ (hg); have NE := am_ (show gb1 ≠ gb4 from by have := blk_lt BK1_.out; rw [hg]; exact Nat.ne_of_lt this); clear hb hbox hg; have cgb4_0 := (blk_cell BK4.out 0).trans rfl; have cgb4_1 := (blk_cell BK4.out 1).trans rfl; have cgb4_2 := (blk_cell BK4.out 2).trans rfl; have cgb4_3 := (blk_cell BK4.out 3).trans rfl; have cgb4_4 := (blk_cell BK4.out 4).trans rfl) | ((with_reducible refine gate_store (t := 39) (p := 4) (v := .tmp 12) rfl ?_); refine store_all BK4.out 39 (.tmp 4) (.tmp 12) rfl rfl rfl (.agg #[.string (rd_T39 l x).f0, .string (rd_T39 l x).f1, .int .i64 (rd_T39 l x).f2.f0, .int .i64 (rd_T39 l x).f2.f1, .int .i64 (rd_T39 l x).f2.f2]) [.string (rd_T39 l x).f0, .string (rd_T39 l x).f1, .int .i64 (rd_T39 l x).f2.f0, .int .i64 (rd_T39 l x).f2.f1, .int .i64 (rd_T39 l x).f2.f2] rfl rfl rfl (by kernel_rfl) rfl (by intro q hq; simp only [List.mem_cons, List.not_mem_nil, or_false] at hq; rcases hq with rfl | rfl | rfl | rfl | rfl <;> rfl) ?_; intro w5 hbk hg; clear cgb4_0 cgb4_1 cgb4_2 cgb4_3 cgb4_4; replace BK1 := am_ (blk_put_other BK1.out hg (NE.out)); replace HB := am_ (below_put HB.out (below_size HB.out) hg GE4.out); replace BK4 := am_ (hbk); clear hbk hg; have cgb4_0 := (blk_cell BK4.out 0).trans rfl; have cgb4_1 := (blk_cell BK4.out 1).trans rfl; have cgb4_2 := (blk_cell BK4.out 2).trans rfl; have cgb4_3 := (blk_cell BK4.out 3).trans rfl; have cgb4_4 := (blk_cell BK4.out 4).trans rfl))
        go_ret
        exact ⟨by rw [HF.out,←HXI.out,HD.out];rfl,HB.out⟩
      have HV:vec_May.f (rd_T39 l x).f2.f0 (rd_T39 l x).f2.f1 (rd_T39 l x).f2.f2=some false:=by
        rw [vec_May_eq]
        refine congrArg some (decide_eq_false fun q=>HMM.out ⟨fun h=> ?_,by omega,q⟩)
        rw [h] at e1
        rw [ByteArray.toList_eq] at e1
        exact absurd e1 (by simp)
      have HV:=Aside0.mk HV
      go_wp2_with (first|((with_reducible refine gate_dst (N:=4) rfl ?_);refine bx_ (N:=4) (cs:=#[.string ⟨#[]⟩, .string ⟨#[]⟩, .int .i64 0, .int .i64 0, .int .i64 0]) (t:=39) ?_;intro gb4 hg w4 hbox hb;replace BK1:=am_ (blk_below BK1.out hb);have BK4:=am_ (hbox);have GE4:=am_ ((by rw [hg];exact below_size HB.out:w.heap.size≤gb4));replace HB:=am_ (below_step HB.out hb);have EQ4:=am_ (hg);have NE:=am_ (show gb1≠gb4 from by have:=blk_lt BK1_.out;rw [hg];exact Nat.ne_of_lt this);clear hb hbox hg;have cgb4_0:=(blk_cell BK4.out 0).trans rfl;have cgb4_1:=(blk_cell BK4.out 1).trans rfl;have cgb4_2:=(blk_cell BK4.out 2).trans rfl;have cgb4_3:=(blk_cell BK4.out 3).trans rfl;have cgb4_4:=(blk_cell BK4.out 4).trans rfl)|((with_reducible refine gate_store (t:=39) (p:=4) (v:= .tmp 12) rfl ?_);refine store_all BK4.out 39 (.tmp 4) (.tmp 12) rfl rfl rfl (.agg #[.string (rd_T39 l x).f0, .string (rd_T39 l x).f1, .int .i64 (rd_T39 l x).f2.f0, .int .i64 (rd_T39 l x).f2.f1, .int .i64 (rd_T39 l x).f2.f2]) [.string (rd_T39 l x).f0, .string (rd_T39 l x).f1, .int .i64 (rd_T39 l x).f2.f0, .int .i64 (rd_T39 l x).f2.f1, .int .i64 (rd_T39 l x).f2.f2] rfl rfl rfl (by kernel_rfl) rfl (by intro q hq;simp only [List.mem_cons,List.not_mem_nil,or_false] at hq;rcases hq with rfl|rfl|rfl|rfl|rfl<;>rfl) ?_;intro w5 hbk hg;clear cgb4_0 cgb4_1 cgb4_2 cgb4_3 cgb4_4;replace BK1:=am_ (blk_put_other BK1.out hg (NE.out));replace HB:=am_ (below_put HB.out (below_size HB.out) hg GE4.out);replace BK4:=am_ (hbk);clear hbk hg;have cgb4_0:=(blk_cell BK4.out 0).trans rfl;have cgb4_1:=(blk_cell BK4.out 1).trans rfl;have cgb4_2:=(blk_cell BK4.out 2).trans rfl;have cgb4_3:=(blk_cell BK4.out 3).trans rfl;have cgb4_4:=(blk_cell BK4.out 4).trans rfl))
      clear k0 k1 k2 k3 k4 p6 q6
      go_wp2_with (go_at_call 111;refine (vec_May.calls _ _ _ _ _ HV.out).mono ?_;rintro e w6 ⟨rfl,hb⟩;have n0_:=am_ (blk_below BK1.out hb);have n1_:=am_ (blk_below BK4.out hb);have n2_:=am_ (below_step HB.out hb);clear BK1 BK4 HB hb cgb4_0 cgb4_1 cgb4_2 cgb4_3 cgb4_4;have BK1:=n0_;have BK4:=n1_;have HB:=n2_;clear n0_ n1_ n2_;have cgb4_0:=(blk_cell BK4.out 0).trans rfl;have cgb1_0:=(blk_cell BK1.out 0).trans rfl)
      go_ret
      exact ⟨by rw [HF.out,←HXI.out,HD.out];rfl,HB.out⟩
    have HM:=hm
    unfold wmay at HM
    rw [decide_eq_true_iff] at HM
    rw [if_pos hm] at HD
    clear hm
    have hE:(rd_T39 l x).f0.toList.isEmpty=false:=by
      cases q:(rd_T39 l x).f0.toList with
      |nil=>exact absurd (ByteArray.ext (Array.toList_inj.1 (by rw [←ByteArray.toList_eq,q]))) HM.1
      |cons _ _=>rfl
    have hS: ¬((rd_T39 l x).f0.size:Int)>24:=by have:=HM.2.1;omega
    have hS': ¬(24:Int)<((rd_T39 l x).f0.size:Int):=by have:=HM.2.1;omega
    have HV:vec_May.f (rd_T39 l x).f2.f0 (rd_T39 l x).f2.f1 (rd_T39 l x).f2.f2=some true:=by rw [vec_May_eq];exact congrArg some (decide_eq_true HM.2.2)
    have HV:=Aside0.mk HV
    clear HM
    go_wp2_with (first|((with_reducible refine gate_dst (N:=4) rfl ?_);refine bx_ (N:=4) (cs:=#[.string ⟨#[]⟩, .string ⟨#[]⟩, .int .i64 0, .int .i64 0, .int .i64 0]) (t:=39) ?_;intro gb4 hg w4 hbox hb;replace BK1:=am_ (blk_below BK1.out hb);have BK4:=am_ (hbox);have GE4:=am_ ((by rw [hg];exact below_size HB.out:w.heap.size≤gb4));replace HB:=am_ (below_step HB.out hb);have EQ4:=am_ (hg);have NE:=am_ (show gb1≠gb4 from by have:=blk_lt BK1_.out;rw [hg];exact Nat.ne_of_lt this);clear hb hbox hg;have cgb4_0:=(blk_cell BK4.out 0).trans rfl;have cgb4_1:=(blk_cell BK4.out 1).trans rfl;have cgb4_2:=(blk_cell BK4.out 2).trans rfl;have cgb4_3:=(blk_cell BK4.out 3).trans rfl;have cgb4_4:=(blk_cell BK4.out 4).trans rfl)|((with_reducible refine gate_store (t:=39) (p:=4) (v:= .tmp 12) rfl ?_);refine store_all BK4.out 39 (.tmp 4) (.tmp 12) rfl rfl rfl (.agg #[.string (rd_T39 l x).f0, .string (rd_T39 l x).f1, .int .i64 (rd_T39 l x).f2.f0, .int .i64 (rd_T39 l x).f2.f1, .int .i64 (rd_T39 l x).f2.f2]) [.string (rd_T39 l x).f0, .string (rd_T39 l x).f1, .int .i64 (rd_T39 l x).f2.f0, .int .i64 (rd_T39 l x).f2.f1, .int .i64 (rd_T39 l x).f2.f2] rfl rfl rfl (by kernel_rfl) rfl (by intro q hq;simp only [List.mem_cons,List.not_mem_nil,or_false] at hq;rcases hq with rfl|rfl|rfl|rfl|rfl<;>rfl) ?_;intro w5 hbk hg;clear cgb4_0 cgb4_1 cgb4_2 cgb4_3 cgb4_4;replace BK1:=am_ (blk_put_other BK1.out hg (NE.out));replace HB:=am_ (below_put HB.out (below_size HB.out) hg GE4.out);replace BK4:=am_ (hbk);clear hbk hg;have cgb4_0:=(blk_cell BK4.out 0).trans rfl;have cgb4_1:=(blk_cell BK4.out 1).trans rfl;have cgb4_2:=(blk_cell BK4.out 2).trans rfl;have cgb4_3:=(blk_cell BK4.out 3).trans rfl;have cgb4_4:=(blk_cell BK4.out 4).trans rfl))
    clear k0 k1 k2 k3 k4 p6 q6
    by_cases hq:wplace l (rd_T39 l x).f0=x
    · rw [if_pos hq] at HD
      have hqb:(wplace l (rd_T39 l x).f0 !=x)=false:=by rw [hq];simp
      clear hq
      go_wp2_with (first|(go_at_call 111;refine (vec_May.calls _ _ _ _ _ HV.out).mono ?_;rintro e w6 ⟨rfl,hb⟩;have n0_:=am_ (blk_below BK1.out hb);have n1_:=am_ (blk_below BK4.out hb);have n2_:=am_ (below_step HB.out hb);clear BK1 BK4 HB hb cgb4_0 cgb4_1 cgb4_2 cgb4_3 cgb4_4;have BK1:=n0_;have BK4:=n1_;have HB:=n2_;clear n0_ n1_ n2_;have cgb4_0:=(blk_cell BK4.out 0).trans rfl;have cgb1_0:=(blk_cell BK1.out 0).trans rfl)|(go_at_call 73;refine (wantFind_calls (some ad) c l (rd_T39 l x).f0 _ (Kd.C_below HR.out HB.out) HC.out).mono ?_;rintro e w7 ⟨rfl,hb⟩;have n0_:=am_ (blk_below BK1.out hb);have n2_:=am_ (below_step HB.out hb);clear BK1 BK4 HB hb;have BK1:=n0_;have HB:=n2_;clear n0_ n2_))
      go_roundg (l.length - (i+1))
      case measure=>omega
      case rel=>exact ⟨i+1,by rw [HXI.out,wnx (by omega)],by omega,by omega,HB,BK1,⟨by rw [HF.out,←HXI.out,HD.out]⟩⟩
    rw [if_neg hq] at HD
    have hqb:(wplace l (rd_T39 l x).f0 !=x)=true:=bne_iff_ne.mpr hq
    clear hq
    go_wp2_with (first|(go_at_call 111;refine (vec_May.calls _ _ _ _ _ HV.out).mono ?_;rintro e w6 ⟨rfl,hb⟩;have n0_:=am_ (blk_below BK1.out hb);have n1_:=am_ (blk_below BK4.out hb);have n2_:=am_ (below_step HB.out hb);clear BK1 BK4 HB hb cgb4_0 cgb4_1 cgb4_2 cgb4_3 cgb4_4;have BK1:=n0_;have BK4:=n1_;have HB:=n2_;clear n0_ n1_ n2_;have cgb4_0:=(blk_cell BK4.out 0).trans rfl;have cgb1_0:=(blk_cell BK1.out 0).trans rfl)|(go_at_call 73;refine (wantFind_calls (some ad) c l (rd_T39 l x).f0 _ (Kd.C_below HR.out HB.out) HC.out).mono ?_;rintro e w7 ⟨rfl,hb⟩;have n0_:=am_ (blk_below BK1.out hb);have n2_:=am_ (below_step HB.out hb);clear BK1 BK4 HB hb;have BK1:=n0_;have HB:=n2_;clear n0_ n2_))
    go_ret
    exact ⟨by rw [HF.out,←HXI.out,HD.out];rfl,HB.out⟩
end Go.Proofs.Ytahidkjncljkaaa.Print

namespace Go.Proofs.Ytahidkjncljkaaa.Print
open Go.RowKit Go.Proofs.YtahidkjncljkaaaW.PrintWords Go.Proofs.YtahidkjncljkaaaW.PrintLast Go.Proofs.YtahidkjncljkaaaW.PrintMore
open Go.Maps (Keyed)
open Go.WideMaps
theorem keyStr:Keyed Try.prog 9:=Maps.string_keyed Try.underlying9
theorem zeroInt (w:World):(zeroValue 3).run Try.prog w= .ok (.int .i64 0) w:=Try.zeroValue3 w
def MapAt (w:World) (b n:Nat) (f:ByteArray→Int):Prop:= ∃D:DataW Unit,w.ownsMap Try.prog 9 (plainElem Try.prog 3) b n D∧Maps.IsMap D∧ ∀s:ByteArray,s.size≤maxLen→D.atKey (.string s.data.toList) (.lit (.int .i64 0))= .lit (.int .i64 (f s))
theorem MapAt.made (w:World):MapAt (w.alloc (.map #[] 0)) w.heap.size 0 (fun _=>0):=⟨.map [],World.ownsMap_made _ _ _ _,Maps.isMap_empty,fun s _=>rfl⟩
theorem MapAt.lt {w:World} {b n:Nat} {f:ByteArray→Int} (h:MapAt w b n f):b<w.heap.size:=by obtain ⟨D,h,_⟩:=h;exact h.lt
theorem MapAt.kept {w w':World} {b n:Nat} {f:ByteArray→Int} (h:MapAt w b n f) (hb:w'.heap[b]?=w.heap[b]?):MapAt w' b n f:=by
 obtain ⟨D,⟨es,clock,h1,h2⟩,h3⟩:=h
 exact ⟨D,⟨es,clock,hb.trans h1,h2⟩,h3⟩
theorem MapAt.below {w w':World} {b n:Nat} {f:ByteArray→Int} (h:MapAt w b n f) (hb:Below w.heap.size w w'):MapAt w' b n f:=h.kept (hb.block b h.lt)
theorem MapAt.other {w w':World} {b n g:Nat} {f:ByteArray→Int} (h:MapAt w b n f) (hg:w.grownBy w' (some g)) (hne:b≠g):MapAt w' b n f:=h.kept (hg.block b h.lt (by intro e;cases e;exact hne rfl))
theorem MapAt.mono {w:World} {b n m:Nat} {f:ByteArray→Int} (h:MapAt w b n f) (hn:n≤m):MapAt w b m f:=by obtain ⟨D,h,q⟩:=h;exact ⟨D,h.mono hn,q⟩
theorem MapAt.look {w:World} {b n:Nat} {f:ByteArray→Int} (h:MapAt w b n f) {t:TypeId} (ht:Try.prog.underlying t=some (.map 9 3)) {s:ByteArray} (hs:s.size≤maxLen) (wq:World) (hq:wq.heap=w.heap):(Instr.lookup t (.map (some b)) (.string s) false).run Try.prog wq= .ok (.int .i64 (f s)) wq:=by
 obtain ⟨D,h,_,hf⟩:=h.kept (w':=wq) (by rw [hq])
 obtain ⟨c,hrun,hat,_⟩:=h.lookup_int keyStr ht Try.underlying3 (zeroInt _) (keyOf_string_mk Try.underlying9 hs)
 rw [hf s hs] at hat
 rw [hrun]
 simp only [DataW.lit.injEq,Lit.int.injEq,true_and] at hat
 rw [hat]
theorem str_key {s t:ByteArray}:(Lit.string s.data.toList)=(Lit.string t.data.toList)↔s=t:=by
  constructor
  rotate_left
  · rintro rfl;rfl
  intro h
  simp only [Lit.string.injEq] at h
  exact ByteArray.ext (Array.toList_inj.1 h)
def updM (f:ByteArray→Int) (s:ByteArray) (v:Int):ByteArray→Int:=fun x=>if x=s then v else f x
theorem MapAt.upd {w:World} {b n:Nat} {f:ByteArray→Int} (h:MapAt w b n f) {t:TypeId} (ht:Try.prog.underlying t=some (.map 9 3)) (hn:n<maxLen) {s:ByteArray} (hs:s.size≤maxLen) {v:Int} (hv:(Lit.int .i64 v).wf=true):
    ∃w',(Instr.mapUpdate t (.map (some b)) (.string s) (.int .i64 v)).run Try.prog w= .ok () w'∧MapAt w' b (n+1) (updM f s v)∧w.grownBy w' (some b):=by
  obtain ⟨D,h,hm,hf⟩:=h
  obtain ⟨w',hrun,ho,hg⟩:=h.update keyStr ht hn (keyOf_string_mk Try.underlying9 hs) (plainElem_int Try.underlying3 hv)
  refine ⟨w',hrun,⟨_,ho,hm.put _ _,fun x hx=> ?_⟩,hg⟩
  unfold updM
  by_cases e:x=s
  · rw [if_pos e,e,Maps.atKey_put_same hm (by trivial)]
  rw [if_neg e,Maps.atKey_put_other (fun q=>e (str_key.1 q)),hf x hx]
section
variable {ops:Array Oper} {rest:List Oper} {o:Oper} {a:Act} {Q:Exit→Act→World→Prop} {Kc:Act→World→Prop} {W:World}
theorem map_step {b n:Nat} {f:ByteArray→Int} (hm:MapAt W b n f) (hw:Region.wanted o (yielded ops a.tmps)=true) (t:TypeId) (ht:Try.prog.underlying t=some (.map 9 3)) (m x y:Operand) (ho:o.op= .mapUpdate t m x y) (hN:o.dst=none) (s:ByteArray) (v:Int)
  (h1:a.eval m= .map (some b)) (h2:a.eval x= .string s) (h3:a.eval y= .int .i64 v) (hn:n<maxLen) (hs:s.size≤maxLen) (hv:(Lit.int .i64 v).wf=true)
  (h: ∀w',MapAt w' b (n+1) (updM f s v)→W.grownBy w' (some b)→Kc a w'):if Region.wanted o (yielded ops a.tmps)=true then Oper.wp Try.prog o a W Kc Q else Kc (a.put none undef) W:=by
 obtain ⟨w',hrun,hc,hg⟩:=hm.upd ht hn hs hv
 rw [if_pos hw]
 unfold Oper.wp execOp
 simp only [ho,h1,h2,h3,Sem.run_bind,Sem.run_pure,Result.andThen_ok,hrun]
 show Kc (a.put o.dst undef) _
 rw [hN]
 exact h _ hc hg
end
end Go.Proofs.Ytahidkjncljkaaa.Print

namespace Go.Proofs.Ytahidkjncljkaaa.Print
open Go.RowKit Go.Proofs.YtahidkjncljkaaaW.PrintWords Go.Proofs.YtahidkjncljkaaaW.PrintLast Go.Proofs.YtahidkjncljkaaaW.PrintMore
def KeptB (b:Nat) (W w:World):Prop:=(∀g ob,g≠b→W.heap[g]?=some ob→w.heap[g]?=some ob)∧W.heap.size≤w.heap.size
theorem keptB_refl (b:Nat) (W:World):KeptB b W W:=⟨fun _ _ _ h=>h,Nat.le_refl _⟩
theorem keptB_below {b:Nat} {W w w1:World} (h:KeptB b W w) (hb:Below w.heap.size w w1):KeptB b W w1:=⟨fun g ob hn hg=>blk_below (h.1 g ob hn hg) hb,Nat.le_trans h.2 hb.size⟩
theorem keptB_put {b g:Nat} {W w w1:World} (h:KeptB b W w) (hg:w.grownBy w1 (some g)) (hx:g=b∨W.heap.size≤g):KeptB b W w1:=
  ⟨fun k ob hn hk=>blk_put_other (h.1 k ob hn hk) hg (fun e=>by
    rcases hx with rfl|hx
    · exact hn e
    have:=blk_lt hk
    omega),Nat.le_trans h.2 hg.size⟩
end Go.Proofs.Ytahidkjncljkaaa.Print

namespace Go.Proofs.Ytahidkjncljkaaa.Print
open Go.RowKit Go.Proofs.YtahidkjncljkaaaW.PrintWords Go.Proofs.YtahidkjncljkaaaW.PrintLast Go.Proofs.YtahidkjncljkaaaW.PrintMore
attribute [local go_sem] max2_int min2_int max_two min_two max_three min_three max_four min_four

def fstep (f:ByteArray→Int) (w:S39):ByteArray→Int:=if w.f1=⟨#[]⟩ then updM f w.f0 1 else if f w.f1>0 then updM f w.f0 (wrap64 (f w.f1+1)) else f
def fround (l:List S39) (f:ByteArray→Int):ByteArray→Int:=l.foldl fstep f
def frounds (l:List S39):Nat→(ByteArray→Int)→ByteArray→Int
 |0,f=>f
 |n+1,f=>frounds l n (fround l f)
def fillR (l:List S39):ByteArray→Int:=frounds l l.length (fun _=>0)
theorem fround_drop {l:List S39} {i:Nat} (h:i<l.length) (f:ByteArray→Int):(l.drop i).foldl fstep f=(l.drop (i+1)).foldl fstep (fstep f (rd_T39 l i)):=by
 rw [List.drop_eq_getElem_cons h,List.foldl_cons]
 have e:rd_T39 l (i:Int)=l[i]:=by
  show l.getD (i:Int).toNat _=_
  rw [Int.toNat_natCast,List.getD_eq_getElem?_getD,List.getElem?_eq_getElem h,Option.getD_some]
 rw [e]
def smallW (l:List S39):Prop:= ∀w∈l,w.f0.size≤1000000∧w.f1.size≤1000000
theorem smallW_rd {l:List S39} (h:smallW l) (i:Int):(rd_T39 l i).f0.size≤maxLen∧(rd_T39 l i).f1.size≤maxLen:=by
  show (l.getD i.toNat _).f0.size≤_∧(l.getD i.toNat _).f1.size≤_
  rw [List.getD_eq_getElem?_getD]
  cases e:l[i.toNat]? with
  |none=>exact ⟨by show (0:Nat)≤_;omega,by show (0:Nat)≤_;omega⟩
  | some x =>
    have:=h x (List.mem_of_getElem? e)
    unfold maxLen
    exact ⟨by show x.f0.size≤_;omega,by show x.f1.size≤_;omega⟩
theorem wf64 (n:Int):(Lit.int .i64 (wrap64 n)).wf=true:=by
  simp only [Lit.wf,Bool.and_eq_true,decide_eq_true_eq]
  unfold wrap64
  constructor
  · show (-9223372036854775808:Int)≤_;omega
  show _≤(9223372036854775807:Int);omega
set_option maxHeartbeats 8000000 in
set_option maxRecDepth 100000 in
theorem wantFill_calls (w W:World) (b:Nat) (A:Option Addr) (c:Nat) (l:List S39) (m0:Option Nat) (hb:W.heap[b]?=some (.cells #[.slice A l.length c, .map m0] 113 (0,0))) (hge:w.heap.size≤b) (hB:Below w.heap.size w W) (hr:Kd.C k39 w A l.length l) (hc:l.length≤c) (hl:l.length≤1000) (hs:smallW l):
    Calls Try.prog 74 #[.pointer (some ⟨b,0,none⟩)] W fun e w'=>e= .returned (.tuple #[])∧ ∃mb n,w'.heap[b]?=some (.cells #[.slice A l.length c, .map (some mb)] 113 (0,0))∧MapAt w' mb n (fillR l)∧Below w.heap.size w w'∧ ∀g ob,g≠b→W.heap[g]?=some ob→w'.heap[g]?=some ob:=by
  have hu113:=Try.underlying113
  have hu110:=Try.underlying110
  have hu39:=Try.underlying39
  have hmm:=@run_makeMap Try.prog
  have BK:=Aside0.mk hb
  have GE:=Aside0.mk hge
  have HB:=Aside0.mk hB
  have HR:=Aside0.mk hr
  have HC:=Aside0.mk hc
  have HS:=Aside0.mk hs
  have KP:=am_ (keptB_refl b W)
  have HBW:=HB
  have cb_0:=(blk_cell BK.out 0).trans rfl
  have cb_1:=(blk_cell BK.out 1).trans rfl
  clear hb hge hB hr hc hs
  go_enter Try.func74,Try.ntmps74
  have HBL:=am_ (blk_lt BK.out)
  go_wp2_with ((with_reducible refine gate_store (t:=111) (p:=8) (v:= .tmp 6) rfl ?_);refine store_part (blk_alloc BK.out _) 111 (.tmp 8) (.tmp 6) rfl rfl rfl 1 (.map (some W.heap.size)) [.map (some W.heap.size)] [.slice A l.length c, .map (some W.heap.size)] rfl rfl rfl (by kernel_rfl) (Nat.le_of_ble_eq_true (by kernel_rfl)) (by intro q hq;simp only [List.mem_cons,List.not_mem_nil,or_false] at hq;rcases hq with rfl;rfl) (by kernel_rfl) ?_;intro w2 hbk hg;clear cb_0 cb_1;have MP:=am_ ((MapAt.made W).other hg (Nat.ne_of_gt HBL.out));have n0_:=am_ (below_put (below_alloc HB.out _) (by have:=below_size HB.out;simp;omega) hg GE.out);have n1_:=am_ (keptB_put (keptB_below KP.out (below_alloc (Below.refl _ _) _)) hg (.inl rfl));have n2_:=Aside0.mk hbk;clear BK HB KP hbk hg;have BK:=n2_;have HB:=n0_;have KP:=n1_;clear n0_ n1_ n2_;have cb_0:=(blk_cell BK.out 0).trans rfl)
  go_loopg [15] l.length (fun kq v15 w'=> ∃(i mb n:Nat) (f:ByteArray→Int),v15= .int .i64 i∧i≤l.length∧l.length - i≤kq∧n≤1000*i∧Aside0 (mb≠b∧W.heap.size≤mb)∧Aside0 (w'.heap[b]?=some (.cells #[.slice A l.length c, .map (some mb)] 113 (0,0)))∧Aside0 (MapAt w' mb n f)∧Aside0 (Below w.heap.size w w')∧Aside0 (KeptB b W w')∧Aside0 (fillR l=frounds l (l.length - i) f))
  case atStart=>exact ⟨0,W.heap.size,0,fun _=>0,rfl,by omega,by omega,by omega,⟨Nat.ne_of_gt HBL.out,Nat.le_refl _⟩,BK,MP,HB,KP,⟨rfl⟩⟩
  case round=>
    clear BK MP HB KP cb_0
    obtain ⟨i,mb,n,f,rfl,hil,hkq,hn,HM,BK,MP,HB,KP,HF⟩:=hrel
    by_cases hlt:i<l.length
    rotate_left
    · obtain rfl : i = l.length := by omega
      go_wp2
      go_end0
      refine ⟨rfl,mb,n,BK.out, ?_,HB.out,KP.out.1⟩
      rw [HF.out,Nat.sub_self]
      exact MP.out


    have hltz:(i:Int)<(l.length:Int):=by omega
    have cb_0:=(blk_cell BK.out 0).trans rfl
    go_wp2
    clear cb_0
    go_loopg [23] l.length (fun kq v23 w'=> ∃(j n2:Nat) (f2:ByteArray→Int),v23= .int .i64 j∧j≤l.length∧l.length - j≤kq∧n2≤1000*i+j∧Aside0 (w'.heap[b]?=some (.cells #[.slice A l.length c, .map (some mb)] 113 (0,0)))∧Aside0 (MapAt w' mb n2 f2)∧Aside0 (Below w.heap.size w w')∧Aside0 (KeptB b W w')∧Aside0 (fround l f=(l.drop j).foldl fstep f2))
    case atStart=>exact ⟨0,n,f,rfl,by omega,by omega,by omega,BK,MP,HB,KP,⟨rfl⟩⟩
    case round=>
      clear BK MP HB KP
      obtain ⟨j,n2,f2,rfl,hjl,hkj,hn2,BK,MP,HB,KP,HG⟩:=hrel
      by_cases hjt:j<l.length
      rotate_left
      · obtain rfl : j = l.length := by omega
        go_wp2
        go_roundg (l.length - (i+1))
        case measure=>omega
        case rel=>exact ⟨i+1,mb,n2,f2,by first|rfl|go_num,by omega,Nat.le_refl _,by omega,HM,BK,MP,HB,KP,⟨by
          have e:fround l f=f2:=by rw [HG.out,List.drop_length];rfl
          rw [HF.out,show l.length - i=(l.length - (i+1))+1 by omega]
          show frounds l _ (fround l f)=_
          rw [e]⟩⟩
      have hjz:(j:Int)<(l.length:Int):=by omega
      obtain ⟨x,hx⟩: ∃x:Int,x=(j:Int):=⟨_,rfl⟩
      have HX0:=am_ (show 0≤x by omega)
      have HX1:=am_ (show x<(l.length:Int) by omega)
      have HD:=am_ (fround_drop hjt f2)
      rw [←hx] at HD
      have HXI:=Aside0.mk hx
      rw [←hx]
      have hltx:x<(l.length:Int):=HX1.out
      have SM:=am_ (smallW_rd HS.out x)
      clear hjz hx
      have p6:0≤x:=HX0.out
      have q6:x<(l.length:Int):=HX1.out
      obtain ⟨ad,e6,k0,k1,k2,k3,k4⟩:=at_T39 HR.out x p6 q6
      cases e6
      have k0:=zx_ HB k0
      have k1:=zx_ HB k1
      have k2:=zx_ HB k2
      have k3:=zx_ HB k3
      have k4:=zx_ HB k4
      replace p6:=eq_true p6
      replace q6:=eq_true q6
      by_cases e1:(rd_T39 l x).f1=⟨#[]⟩
      · have hE : (rd_T39 l x).f1.toList.isEmpty = true := by rw [e1, ByteArray.toList_eq]; rfl
        have E1:=Aside0.mk e1
        clear e1
        go_wp2_with (first|((with_reducible refine gate_dst (N:=3) rfl ?_);refine bx_ (N:=3) (cs:=#[.string ⟨#[]⟩, .string ⟨#[]⟩, .int .i64 0, .int .i64 0, .int .i64 0]) (t:=39) ?_;intro gb3 hg w4 hbox hb;have NE:=am_ (show b≠gb3 from by have:=blk_lt BK.out;rw [hg];exact Nat.ne_of_lt this);have NM:=am_ (show mb≠gb3 from by have:=MP.out.lt;rw [hg];exact Nat.ne_of_lt this);have GW:=am_ (show W.heap.size≤gb3 from by rw [hg];exact KP.out.2);have GE3:=am_ (show w.heap.size≤gb3 from by rw [hg];exact below_size HB.out);have n0_:=am_ (blk_below BK.out hb);have n1_:=am_ (MP.out.below hb);have n2_:=am_ (below_step HB.out hb);have n3_:=am_ (keptB_below KP.out hb);have BK3:=Aside0.mk hbox;clear BK MP HB KP hb hbox hg;have BK:=n0_;have MP:=n1_;have HB:=n2_;have KP:=n3_;clear n0_ n1_ n2_ n3_;have c3_0:=(blk_cell BK3.out 0).trans rfl;have c3_1:=(blk_cell BK3.out 1).trans rfl;have c3_2:=(blk_cell BK3.out 2).trans rfl;have c3_3:=(blk_cell BK3.out 3).trans rfl;have c3_4:=(blk_cell BK3.out 4).trans rfl)|((with_reducible refine gate_store (t:=39) (p:=3) (v:= .tmp 26) rfl ?_);refine store_all BK3.out 39 (.tmp 3) (.tmp 26) rfl rfl rfl (.agg #[.string (rd_T39 l x).f0, .string (rd_T39 l x).f1, .int .i64 (rd_T39 l x).f2.f0, .int .i64 (rd_T39 l x).f2.f1, .int .i64 (rd_T39 l x).f2.f2]) [.string (rd_T39 l x).f0, .string (rd_T39 l x).f1, .int .i64 (rd_T39 l x).f2.f0, .int .i64 (rd_T39 l x).f2.f1, .int .i64 (rd_T39 l x).f2.f2] rfl rfl rfl (by kernel_rfl) rfl (by intro q hq;simp only [List.mem_cons,List.not_mem_nil,or_false] at hq;rcases hq with rfl|rfl|rfl|rfl|rfl<;>rfl) ?_;intro w5 hbk hg;clear c3_0 c3_1 c3_2 c3_3 c3_4;have n0_:=am_ (blk_put_other BK.out hg NE.out);have n1_:=am_ (MP.out.other hg NM.out);have n2_:=am_ (below_put HB.out (below_size HB.out) hg GE3.out);have n3_:=am_ (keptB_put KP.out hg (.inr GW.out));have n4_:=Aside0.mk hbk;clear BK MP HB KP BK3 hbk hg;have BK:=n0_;have MP:=n1_;have HB:=n2_;have KP:=n3_;have BK3:=n4_;clear n0_ n1_ n2_ n3_ n4_;have c3_1:=(blk_cell BK3.out 1).trans rfl))
        clear k0 k1 k2 k3 k4 p6 q6
        have n0_:=am_ (blk_drew BK.out)
        have n1_:=am_ (MP.out.kept (w':=w5.drew) rfl)
        have n2_:=am_ (below_drew1 HB.out)
        have n3_:=am_ (keptB_below KP.out (below_drew1 (Below.refl _ _)))
        have n4_:=am_ (blk_drew BK3.out)
        clear BK MP HB KP BK3 c3_1
        have BK:=n0_
        have MP:=n1_
        have HB:=n2_
        have KP:=n3_
        have BK3:=n4_
        clear n0_ n1_ n2_ n3_ n4_
        refine start_ (n:=7) (S:=fun w'=>w'.cell? ⟨b,1,none⟩=some (.map (some mb))∧w'.cell? ⟨gb3,0,none⟩=some (.string (rd_T39 l x).f0)) (ds:=[6]) (bt_ 7 0) (by kernel_rfl) rfl rfl ⟨(blk_cell BK.out 1).trans rfl,(blk_cell BK3.out 0).trans rfl⟩ (fun hHeld=> ?_)
        generalize w5.drew=w9 at BK MP HB KP BK3 hHeld ⊢
        refine pv_ (i:=0) (N:=some 30) (bt_ 7 1) ?_
        refine pv_ (i:=1) (N:=some 31) (bt_ 7 3) ?_
        refine pv_ (i:=2) (N:=some 32) (bt_ 7 7) ?_
        refine tv_ (i:=3) (N:=some 33) (bt_ 7 15) hHeld ?_
        refine pv_ (i:=4) (N:=some 34) (bt_ 7 31) ?_
        refine tv_ (i:=5) (N:=some 35) (bt_ 7 63) hHeld ?_
        refine last_ (i:=6) (N:=none) (bt_ 7 127) rfl rfl (by kernel_rfl) (by decide) (fun K hK=> ?_)
        refine map_step MP.out (by rfl) 111 Try.underlying111 (.tmp 33) (.tmp 35) (.const (.int .i64 1)) rfl rfl _ _ rfl rfl rfl (by unfold maxLen;omega) SM.out.1 (by decide) ?_
        intro w10 hm hg
        have n0_:=am_ (blk_put_other BK.out hg (fun e=>HM.out.1 e.symm))
        have n1_:=Aside0.mk hm
        have n2_:=am_ (below_put HB.out (below_size HB.out) hg (Nat.le_trans (below_size HBW.out) HM.out.2))
        have n3_:=am_ (keptB_put KP.out hg (.inr HM.out.2))
        clear BK MP HB KP BK3 hm hg
        have BK:=n0_
        have MP:=n1_
        have HB:=n2_
        have KP:=n3_
        clear n0_ n1_ n2_ n3_
        refine hK.out _ _ ?_
        clear hK K hHeld
        refine done_ (by kernel_rfl) ?_
        go_wp2
        go_roundg (l.length - (j+1))
        case measure=>omega
        case rel=>exact ⟨j+1,n2+1,_,by rw [HXI.out,wnx (by omega)],by omega,Nat.le_refl _,by omega,BK,MP,HB,KP,⟨by rw [HG.out,HD.out];unfold fstep;rw [if_pos E1.out]⟩⟩
      have hE:(rd_T39 l x).f1.toList.isEmpty=false:=by
        cases q:(rd_T39 l x).f1.toList with
        |nil=>exact absurd (ByteArray.ext (Array.toList_inj.1 (by rw [←ByteArray.toList_eq,q]))) e1
        |cons _ _=>rfl
      have E1:=Aside0.mk e1
      clear e1
      go_wp2_with (first|((with_reducible refine gate_dst (N:=3) rfl ?_);refine bx_ (N:=3) (cs:=#[.string ⟨#[]⟩, .string ⟨#[]⟩, .int .i64 0, .int .i64 0, .int .i64 0]) (t:=39) ?_;intro gb3 hg w4 hbox hb;have NE:=am_ (show b≠gb3 from by have:=blk_lt BK.out;rw [hg];exact Nat.ne_of_lt this);have NM:=am_ (show mb≠gb3 from by have:=MP.out.lt;rw [hg];exact Nat.ne_of_lt this);have GW:=am_ (show W.heap.size≤gb3 from by rw [hg];exact KP.out.2);have GE3:=am_ (show w.heap.size≤gb3 from by rw [hg];exact below_size HB.out);have n0_:=am_ (blk_below BK.out hb);have n1_:=am_ (MP.out.below hb);have n2_:=am_ (below_step HB.out hb);have n3_:=am_ (keptB_below KP.out hb);have BK3:=Aside0.mk hbox;clear BK MP HB KP hb hbox hg;have BK:=n0_;have MP:=n1_;have HB:=n2_;have KP:=n3_;clear n0_ n1_ n2_ n3_;have c3_0:=(blk_cell BK3.out 0).trans rfl;have c3_1:=(blk_cell BK3.out 1).trans rfl;have c3_2:=(blk_cell BK3.out 2).trans rfl;have c3_3:=(blk_cell BK3.out 3).trans rfl;have c3_4:=(blk_cell BK3.out 4).trans rfl)|((with_reducible refine gate_store (t:=39) (p:=3) (v:= .tmp 26) rfl ?_);refine store_all BK3.out 39 (.tmp 3) (.tmp 26) rfl rfl rfl (.agg #[.string (rd_T39 l x).f0, .string (rd_T39 l x).f1, .int .i64 (rd_T39 l x).f2.f0, .int .i64 (rd_T39 l x).f2.f1, .int .i64 (rd_T39 l x).f2.f2]) [.string (rd_T39 l x).f0, .string (rd_T39 l x).f1, .int .i64 (rd_T39 l x).f2.f0, .int .i64 (rd_T39 l x).f2.f1, .int .i64 (rd_T39 l x).f2.f2] rfl rfl rfl (by kernel_rfl) rfl (by intro q hq;simp only [List.mem_cons,List.not_mem_nil,or_false] at hq;rcases hq with rfl|rfl|rfl|rfl|rfl<;>rfl) ?_;intro w5 hbk hg;clear c3_0 c3_1 c3_2 c3_3 c3_4;have n0_:=am_ (blk_put_other BK.out hg NE.out);have n1_:=am_ (MP.out.other hg NM.out);have n2_:=am_ (below_put HB.out (below_size HB.out) hg GE3.out);have n3_:=am_ (keptB_put KP.out hg (.inr GW.out));have n4_:=Aside0.mk hbk;clear BK MP HB KP BK3 hbk hg;have BK:=n0_;have MP:=n1_;have HB:=n2_;have KP:=n3_;have BK3:=n4_;clear n0_ n1_ n2_ n3_ n4_;have c3_1:=(blk_cell BK3.out 1).trans rfl))
      clear k0 k1 k2 k3 k4 p6 q6
      have cb_1:=(blk_cell BK.out 1).trans rfl
      have z0:=fun (n_:Nat)=>(show (w5.drewN n_).cell? _=some _ from cb_1)
      have z1:=fun (n_:Nat)=>(show (w5.drewN n_).cell? _=some _ from c3_1)
      have z2:=fun (n_:Nat)=>MP.out.look Try.underlying111 SM.out.2 (w5.drewN n_) rfl
      by_cases e2:0<f2 (rd_T39 l x).f1
      rotate_left
      · have E2 := Aside0.mk e2
        go_quiet (fail)
        try go_wp2
        clear z0 z1 z2 cb_1 c3_1
        replace BK:=am_ (blk_drewN BK.out nq)
        replace MP:=am_ (MP.out.kept (w':=w5.drewN nq) rfl)
        replace HB:=am_ (pw_below_drewN HB.out nq)
        replace KP:=am_ (keptB_below KP.out (pw_below_drewN (Below.refl _ _) nq))
        replace BK3:=am_ (blk_drewN BK3.out nq)
        generalize w5.drewN nq=w8 at BK MP HB KP BK3 ⊢
        go_roundg (l.length - (j+1))
        case measure=>omega
        case rel=>exact ⟨j+1,n2,f2,by rw [HXI.out,wnx (by omega)],by omega,Nat.le_refl _,by omega,BK,MP,HB,KP,⟨by rw [HG.out,HD.out];unfold fstep;rw [if_neg E1.out,if_neg (by have:=E2.out;omega)]⟩⟩
      have E2:=Aside0.mk e2
      go_quiet (fail)
      try go_wp2
      clear z0 z1 z2 cb_1 c3_1
      replace BK:=am_ (blk_drewN BK.out nq)
      replace MP:=am_ (MP.out.kept (w':=w5.drewN nq) rfl)
      replace HB:=am_ (pw_below_drewN HB.out nq)
      replace KP:=am_ (keptB_below KP.out (pw_below_drewN (Below.refl _ _) nq))
      replace BK3:=am_ (blk_drewN BK3.out nq)
      generalize w5.drewN nq=w8 at BK MP HB KP BK3 ⊢
      replace BK:=am_ (blk_drew BK.out)
      replace MP:=am_ (MP.out.kept (w':=w8.drew) rfl)
      replace HB:=am_ (below_drew1 HB.out)
      replace KP:=am_ (keptB_below KP.out (below_drew1 (Below.refl _ _)))
      replace BK3:=am_ (blk_drew BK3.out)
      refine start_ (n:=9) (S:=fun w'=>w'.cell? ⟨b,1,none⟩=some (.map (some mb))∧w'.cell? ⟨gb3,0,none⟩=some (.string (rd_T39 l x).f0)) (ds:=[8]) (bt_ 9 0) (by kernel_rfl) rfl rfl ⟨(blk_cell BK.out 1).trans rfl,(blk_cell BK3.out 0).trans rfl⟩ (fun hHeld=> ?_)
      generalize w8.drew=w9 at BK MP HB KP BK3 hHeld ⊢
      refine pv_ (i:=0) (N:=some 45) (bt_ 9 1) ?_
      refine pv_ (i:=1) (N:=some 46) (bt_ 9 3) ?_
      refine pv_ (i:=2) (N:=some 47) (bt_ 9 7) ?_
      refine tv_ (i:=3) (N:=some 48) (bt_ 9 15) hHeld ?_
      refine pv_ (i:=4) (N:=some 49) (bt_ 9 31) ?_
      refine tv_ (i:=5) (N:=some 50) (bt_ 9 63) hHeld ?_
      refine pv_ (i:=6) (N:=some 51) (bt_ 9 127) ?_
      refine pv_ (i:=7) (N:=some 52) (bt_ 9 255) ?_
      refine last_ (i:=8) (N:=none) (bt_ 9 511) rfl rfl (by kernel_rfl) (by decide) (fun K hK=> ?_)
      refine map_step MP.out (by rfl) 111 Try.underlying111 (.tmp 48) (.tmp 50) (.tmp 52) rfl rfl _ _ rfl rfl rfl (by unfold maxLen;omega) SM.out.1 (wf64 _) ?_
      intro w10 hm hg
      have n0_:=am_ (blk_put_other BK.out hg (fun e=>HM.out.1 e.symm))
      have n1_:=Aside0.mk hm
      have n2_:=am_ (below_put HB.out (below_size HB.out) hg (Nat.le_trans (below_size HBW.out) HM.out.2))
      have n3_:=am_ (keptB_put KP.out hg (.inr HM.out.2))
      clear BK MP HB KP BK3 hm hg
      have BK:=n0_
      have MP:=n1_
      have HB:=n2_
      have KP:=n3_
      clear n0_ n1_ n2_ n3_
      refine hK.out _ _ ?_
      clear hK K hHeld
      refine done_ (by kernel_rfl) ?_
      go_wp2
      go_roundg (l.length - (j+1))
      case measure=>omega
      case rel=>exact ⟨j+1,n2+1,_,by rw [HXI.out,wnx (by omega)],by omega,Nat.le_refl _,by omega,BK,MP,HB,KP,⟨by rw [HG.out,HD.out];unfold fstep;rw [if_neg E1.out,if_pos E2.out]⟩⟩
set_option maxHeartbeats 8000000 in
set_option maxRecDepth 100000 in
theorem wantMade_calls (A:Option Addr) (c:Nat) (l:List S39) (w:World) (hr:Kd.C k39 w A l.length l) (hc:l.length≤c) (hl:l.length≤1000) (hs:smallW l):
  Calls Try.prog 76 #[.slice A l.length c] w fun e w'=> ∃b mb n,e= .returned (.pointer (some ⟨b,0,none⟩))∧w.heap.size≤b∧w'.heap[b]?=some (.cells #[.slice A l.length c, .map (some mb)] 113 (0,0))∧MapAt w' mb n (fillR l)∧Below w.heap.size w w':=by
 have hu113:=Try.underlying113
 have hu110:=Try.underlying110
 have HR:=Aside0.mk hr
 have HC:=Aside0.mk hc
 have HS:=Aside0.mk hs
 have HB:=am_ (Below.refl w.heap.size w)
 clear hr hc hs
 go_enter Try.func76,Try.ntmps76
 go_wp2_with (first|((with_reducible refine gate_dst (N:=7) rfl ?_);refine bx_ (N:=7) (cs:=#[.slice A l.length c, .map none]) (t:=113) ?_;intro gb7 hg w2 hbox hb;have BK7:=am_ (hbox);have GE7:=am_ ((by rw [hg];exact below_size HB.out:w.heap.size≤gb7));replace HB:=am_ (below_step HB.out hb);have EQ7:=am_ (hg);clear hb hbox hg)|(go_at_call 74;refine (wantFill_calls w _ gb7 A c l none BK7.out GE7.out HB.out HR.out HC.out hl HS.out).mono ?_;rintro e w3 ⟨rfl,mb,n,hbk,hm,hb,_⟩;have BK:=Aside0.mk hbk;have MP:=Aside0.mk hm;have HB3:=Aside0.mk hb;clear hbk hm hb))
 go_ret
 exact ⟨gb7,mb,n,rfl,GE7.out,BK.out,MP.out,HB3.out⟩


noncomputable def want_Depth.f (l0:List (S39)) (a1:ByteArray):Option Int:=open Classical in if l0.length≤1000∧smallW l0∧a1.size≤1000000 then some (fillR l0 a1) else none
set_option maxHeartbeats 8000000 in
set_option maxRecDepth 100000 in
theorem want_Depth.calls (A0:Option Addr) (c0:Nat) (l0:List (S39)) (a1:ByteArray) (r:Int) (w:World) (hr0:Kd.C k39 w A0 l0.length l0) (hc0:l0.length≤c0) (h:want_Depth.f l0 a1=some r):
    Calls Try.prog 27 #[.slice A0 l0.length c0, .string a1] w fun e w'=>e= .returned (.int .i64 r)∧Below w.heap.size w w':=by
  unfold want_Depth.f at h
  split at h
  rotate_left
  · cases h


  rename_i hh
  obtain ⟨hl,hs,ha⟩:=hh
  obtain rfl:=Option.some.inj h
  have hu113:=Try.underlying113
  have hcall:=wantMade_calls A0 c0 l0 w hr0 hc0 hl hs
  have HA:=Aside0.mk ha
  clear hr0 hc0 h hl hs ha
  go_enter Try.func27,Try.ntmps27
  go_wp2_with (go_at_call 76;refine hcall.mono ?_;rintro e w3 ⟨b,mb,n,rfl,_,hbk,hm,hb⟩;have hc1:=(blk_cell hbk 1).trans rfl;have hlook:=hm.look Try.underlying111 (show a1.size≤maxLen from by have:=HA.out;unfold maxLen;omega) w3 rfl;have HB:=Aside0.mk hb;clear hbk hm hb)
  go_ret
  exact ⟨rfl,HB.out⟩
def slices_Clone_Want.f (l0:List (S39)):Option (List (S39)):=if l0.length<2513169434916 then some l0 else none
set_option maxHeartbeats 8000000 in
set_option maxRecDepth 100000 in
theorem slices_Clone_Want.calls (A0:Option Addr) (c0:Nat) (l0:List (S39)) (r:List (S39)) (w:World) (hr0:Kd.C k39 w A0 l0.length l0) (hc0:l0.length≤c0) (h:slices_Clone_Want.f l0=some r):
    Calls Try.prog 77 #[.slice A0 l0.length c0] w fun e w'=> ∃v0_:Value,e= .returned (v0_)∧Kd.R k39 39 w' w.heap.size (fun _=>True) v0_ r∧Below w.heap.size w w':=by
  have hlim:l0.length<2513169434916∧l0=r:=by
    unfold slices_Clone_Want.f at h
    split at h
    · exact ⟨by assumption,Option.some.inj h⟩
    cases h
  obtain ⟨hlim,rfl⟩:=hlim
  have hnil:=fun (W:World) (n c:Nat)=>Lib.run_eql_slice_nil (P:=Try.prog) W 22 39 A0 n c 0 0 Try.underlying22
  cases A0 with
  | none =>
    have hl:l0=[]:=by
      cases l0 with
      |nil=>rfl
      |cons x l=>exact absurd (hr0.2.2 (by simp)) (by simp)
    subst hl
    clear hr0
    go_enter Try.func77,Try.ntmps77
    go_wp2
    go_ret
    exact ⟨_,rfl,Kd.R_nil _ _ _ _ _,Below.refl _ _⟩
  | some ad =>
    have HR0:=Aside0.mk hr0
    have HC0:=Aside0.mk hc0
    have LM:=Aside0.mk hlim
    clear hr0 hc0 hlim h
    have HB:=am_ (Below.refl w.heap.size w)
    go_enter Try.func77,Try.ntmps77
    go_wp2_with (first|((with_reducible refine gate_dst (N:=5) rfl ?_);refine Kd.R_lit k39 _ 39 ?hg (N:=5) ?hd (xs:=([]:List (S39))) (inner:=[]) (ok:=fun _=>True) (okp:=fun _=>True) ?hr ?hp (fun _ hk=>hk) trivial (Below.refl _ _) (Nat.le_refl _) (by simp) ?_;(case hd=>rfl);(case hg=>rfl);(case hr=>first|(go_simp;done)|(go_simp;rfl));(case hp=>exact (Reps.none _ _));intro v2 w3 ho4 hb hg_ hnew_;clear hg_ hnew_;have HO3:=am_ (Kd.R_lower ho4 (below_size HB.out));replace HB:=am_ (below_step HB.out hb);clear hb ho4)|((with_reducible refine gate_builtin (b:= .append) (xs:=#[.tmp 5, .tmp 6]) rfl ?_);at_builtin;refine Kd.R_append_rows k39 (w0:=w) w.heap.size rfl (.tmp 5) (.tmp 6) 22 39 (.agg #[(.string ⟨#[]⟩),(.string ⟨#[]⟩),(.int .i64 0),(.int .i64 0),(.int .i64 0)]) 56 rfl Try.underlying22 info39 rfl (by decide) (by omega) v2 [] l0 _ _ _ (fun _=>True) (fun _=>False) rfl rfl ?aO ?aR (fun _ _ h=>h) (fun _ h=>h.elim) ?aF ?aB ?aS ?aL ?_;(case aR=>exact (Kd.C_below HR0.out HB.out));(case aB=>exact HB.out);(case aF=>exact (fun _ _=>trivial));(case aO=>exact HO3.out);(case aS=>exact (below_size HB.out));(case aL=>have:=LM.out;simp;omega);intro v5 w5 ho hb hg hat;have n0_:=am_ (hb);have n1_:=am_ (ho);clear HB;clear HO3;have HB:=n0_;have HO6:=n1_;clear n0_ n1_;clear ho hb hg hat))
    go_ret
    exact ⟨_,rfl,HO6.out,HB.out⟩


end Go.Proofs.Ytahidkjncljkaaa.Print

namespace Go.Proofs.Ytahidkjncljkaaa.Print
open Go.Sort
variable {α:Type} [Inhabited α]
def SwapAt (x y n:Nat) (d d':Array α):Prop:=d'.size=d.size∧ ∀k,d'[k]! =if x≤k∧k<x+n then d[k+(y - x)]! else if y≤k∧k<y+n then d[k - (y - x)]! else d[k]!
def RotAt (a m b:Nat) (d d':Array α):Prop:=d'.size=d.size∧ ∀k,d'[k]! =if a≤k∧k<a+(b - m) then d[k+(m - a)]! else if a+(b - m)≤k∧k<b then d[k - (b - m)]! else d[k]!
theorem get_eq (d:Array α) {i j:Nat} (h:i=j):d[i]! =d[j]!:=by rw [h]
theorem swapAt_zero (x y:Nat) (d:Array α):SwapAt x y 0 d d:=⟨rfl,fun k=>by rw [if_neg (by omega),if_neg (by omega)]⟩
theorem swapAt_step {x y n:Nat} {d dc:Array α} (h:SwapAt x y n d dc) (hxy:x+n<y) (hy:y+n<d.size):SwapAt x y (n+1) d (swp dc (x+n) (y+n)):=by
  have hs:=h.1
  refine ⟨by rw [swp_size,hs],fun k=> ?_⟩
  rw [swp_get dc (by omega) (by omega),h.2,h.2,h.2]
  by_cases h1:k=y+n
  · rw [if_pos h1, if_neg (by omega), if_neg (by omega), if_neg (by omega), if_pos (by omega)]
    exact get_eq _ (by omega)
  by_cases h2:k=x+n
  · rw [if_neg h1, if_pos h2, if_neg (by omega), if_neg (by omega), if_pos (by omega)]
    exact get_eq _ (by omega)
  rw [if_neg h1,if_neg h2]
  by_cases h3:x≤k∧k<x+n
  · rw [if_pos h3,if_pos (by omega)]
  rw [if_neg h3]
  by_cases h4:y≤k∧k<y+n
  · rw [if_pos h4,if_neg (by omega),if_pos (by omega)]
  rw [if_neg h4,if_neg (by omega),if_neg (by omega)]
theorem rot_more {m i j:Nat} {d d1 d2:Array α} (hij:j<i) (him:i≤m) (h:SwapAt (m - i) m j d d1) (h2:RotAt (m - (i - j)) m (m+j) d1 d2):RotAt (m - i) m (m+j) d d2:=by
  refine ⟨by rw [h2.1,h.1],fun k=> ?_⟩
  rw [h2.2]
  by_cases c1:m - (i - j)≤k∧k<m - (i - j)+(m+j - m)
  · rw [if_pos c1, h.2, if_neg (by omega), if_pos (by omega), if_neg (by omega), if_pos (by omega)]
    exact get_eq _ (by omega)
  rw [if_neg c1]
  by_cases c2:m - (i - j)+(m+j - m)≤k∧k<m+j
  · rw [if_pos c2,h.2,if_neg (by omega),if_neg (by omega),if_neg (by omega),if_pos (by omega)]
  rw [if_neg c2,h.2]
  by_cases c3:m - i≤k∧k<m - i+j
  · rw [if_pos c3,if_pos (by omega)]
  rw [if_neg c3,if_neg (by omega),if_neg (by omega),if_neg (by omega)]
theorem rot_less {m i j:Nat} {d d1 d2:Array α} (hij:i<j) (him:i≤m) (h:SwapAt (m - i) (m+j - i) i d d1) (h2:RotAt (m - i) m (m+(j - i)) d1 d2):RotAt (m - i) m (m+j) d d2:=by
  refine ⟨by rw [h2.1,h.1],fun k=> ?_⟩
  rw [h2.2]
  by_cases c1:m - i≤k∧k<m - i+(m+(j - i) - m)
  · rw [if_pos c1, h.2]
    by_cases c2:m - i≤k+(m - (m - i))∧k+(m - (m - i))<m - i+i
    · omega
    rw [if_neg c2,if_neg (by omega),if_pos (by omega)]
  rw [if_neg c1]
  by_cases c2:m - i+(m+(j - i) - m)≤k∧k<m+(j - i)
  · rw [if_pos c2, h.2, if_pos (by omega), if_pos (by omega)]
    exact get_eq _ (by omega)
  rw [if_neg c2,h.2,if_neg (by omega)]
  by_cases c3:m+j - i≤k∧k<m+j - i+i
  · rw [if_pos c3, if_neg (by omega), if_pos (by omega)]
    exact get_eq _ (by omega)
  rw [if_neg c3,if_neg (by omega),if_neg (by omega)]
theorem rot_same {m i:Nat} {d d':Array α} (him:i≤m) (h:SwapAt (m - i) m i d d'):RotAt (m - i) m (m+i) d d':=by
  refine ⟨h.1,fun k=> ?_⟩
  rw [h.2]
  by_cases c1:m - i≤k∧k<m - i+i
  · rw [if_pos c1,if_pos (by omega)]
  rw [if_neg c1]
  by_cases c2:m≤k∧k<m+i
  · rw [if_pos c2, if_neg (by omega), if_pos (by omega)]
    exact get_eq _ (by omega)
  rw [if_neg c2,if_neg (by omega),if_neg (by omega)]
theorem rot_left (m e:Nat) (d:Array α):RotAt m m e d d:=⟨rfl,fun k=>by
  by_cases c1:m≤k∧k<m+(e - m)
  · rw [if_pos c1];exact get_eq _ (by omega)
  rw [if_neg c1,if_neg (by omega)]⟩
theorem rot_right (s m:Nat) (d:Array α):RotAt s m m d d:=⟨rfl,fun k=>by
  rw [if_neg (by omega)]
  by_cases c1:s+(m - m)≤k∧k<m
  · rw [if_pos c1];exact get_eq _ (by omega)
  rw [if_neg c1]⟩
theorem rot_up {a k:Nat} {d dc:Array α} (h:RotAt a (a+1) (k+1) d dc) (hak:a≤k) (hk:k+1<d.size):RotAt a (a+1) (k+2) d (swp dc k (k+1)):=by
  have hs:=h.1
  refine ⟨by rw [swp_size,hs],fun q=> ?_⟩
  rw [swp_get dc (by omega) (by omega),h.2,h.2,h.2]
  by_cases h1:q=k+1
  · rw [if_pos h1, if_neg (by omega), if_pos (by omega), if_neg (by omega), if_pos (by omega)]
    exact get_eq _ (by omega)
  by_cases h2:q=k
  · rw [if_neg h1, if_pos h2, if_neg (by omega), if_neg (by omega), if_pos (by omega)]
    exact get_eq _ (by omega)
  rw [if_neg h1,if_neg h2]
  by_cases h3:a≤q∧q<a+(k+1 - (a+1))
  · rw [if_pos h3,if_pos (by omega)]
  rw [if_neg h3,if_neg (by omega),if_neg (by omega),if_neg (by omega)]
theorem rot_down {k m:Nat} {d dc:Array α} (h:RotAt (k+1) m (m+1) d dc) (hkm:k<m) (hm:m<d.size):RotAt k m (m+1) d (swp dc (k+1) k):=by
  have hs:=h.1
  refine ⟨by rw [swp_size,hs],fun q=> ?_⟩
  rw [swp_get dc (by omega) (by omega),h.2,h.2,h.2]
  by_cases h1:q=k
  · rw [if_pos h1, if_pos (by omega), if_pos (by omega)]
    exact get_eq _ (by omega)
  by_cases h2:q=k+1
  · rw [if_neg h1, if_pos h2, if_neg (by omega), if_neg (by omega), if_neg (by omega), if_pos (by omega)]
    exact get_eq _ (by omega)
  rw [if_neg h1,if_neg h2,if_neg (by omega)]
  by_cases h3:k+1+(m+1 - m)≤q∧q<m+1
  · rw [if_pos h3,if_neg (by omega),if_pos (by omega)]
  rw [if_neg h3,if_neg (by omega),if_neg (by omega)]
theorem rot_src {s m e:Nat} {d d':Array α} (h:RotAt s m e d d') (hsm:s≤m) (hme:m≤e) (k:Nat): ∃q,d'[k]! =d[q]!∧((k<s∧q=k)∨(s≤k∧k<s+(e - m)∧q=k+(m - s))∨(s+(e - m)≤k∧k<e∧q=k - (e - m))∨(e≤k∧q=k)):=by
  rw [h.2]
  by_cases c1:s≤k∧k<s+(e - m)
  · rw [if_pos c1];exact ⟨_,rfl,by omega⟩
  rw [if_neg c1]
  by_cases c2:s+(e - m)≤k∧k<e
  · rw [if_pos c2];exact ⟨_,rfl,by omega⟩
  rw [if_neg c2];exact ⟨_,rfl,by omega⟩
variable {lt:α→α→Bool}
theorem sym_half {a s m e b:Nat} {d d':Array α} (h:RotAt s m e d d') (has:a≤s) (hsm:s≤m) (hme:m≤e) (heb:e≤b) (hA:SortedIn lt a m d) (hB:SortedIn lt m b d)
    (x1: ∀x y,a≤x→x<s→e≤y→y<b→lt d[y]! d[x]! =false) (x2: ∀x y,m≤x→x<e→s≤y→y<m→lt d[y]! d[x]! =false):
    SortedIn lt a s d'∧SortedIn lt s (s+(e - m)) d'∧SortedIn lt (s+(e - m)) e d'∧SortedIn lt e b d'∧ ∀x y,a≤x→x<s+(e - m)→s+(e - m)≤y→y<b→lt d'[y]! d'[x]! =false:=by
  have key:=rot_src h hsm hme
  refine ⟨fun i j h1 h2 h3=> ?_,fun i j h1 h2 h3=> ?_,fun i j h1 h2 h3=> ?_,fun i j h1 h2 h3=> ?_,fun i j h1 h2 h3 h4=> ?_⟩
  all_goals
    obtain ⟨q,eq,cq⟩:=key i
    obtain ⟨r,er,cr⟩:=key j
    rw [eq,er]
  · exact hA q r (by omega) (by omega) (by omega)
  · exact hB q r (by omega) (by omega) (by omega)
  · exact hA q r (by omega) (by omega) (by omega)
  · exact hB q r (by omega) (by omega) (by omega)
  rcases cq with cq|cq|cq|cq<;>rcases cr with cr|cr|cr|cr<;>first
    |(exfalso;omega)
    |exact hA q r (by omega) (by omega) (by omega)
    |exact hB q r (by omega) (by omega) (by omega)
    |exact x1 q r (by omega) (by omega) (by omega) (by omega)
    |exact x2 q r (by omega) (by omega) (by omega) (by omega)
theorem sym_x1 (hS:SWO lt) {a s m e b:Nat} {d:Array α} (hA:SortedIn lt a m d) (hB:SortedIn lt m b d) (hsm:s≤m) (hme:m≤e) (h:a<s→e<b→lt d[e]! d[s - 1]! =false): ∀x y,a≤x→x<s→e≤y→y<b→lt d[y]! d[x]! =false:=by
  intro x y h1 h2 h3 h4
  have k:=h (by omega) (by omega)
  have k1:lt d[e]! d[x]! =false:=by
    by_cases q:x=s - 1
    · rw [q];exact k
    exact hS.ntrans _ _ _ k (hA x (s - 1) h1 (by omega) (by omega))
  by_cases q:y=e
  · rw [q];exact k1
  exact hS.ntrans _ _ _ (hB e y (by omega) (by omega) h4) k1
theorem sym_x2 (hS:SWO lt) {a s m e b:Nat} {d:Array α} (hA:SortedIn lt a m d) (hB:SortedIn lt m b d) (has:a≤s) (heb:e≤b) (h:m<e→s<m→lt d[s]! d[e - 1]! =false): ∀x y,m≤x→x<e→s≤y→y<m→lt d[y]! d[x]! =false:=by
  intro x y h1 h2 h3 h4
  have k:=h (by omega) (by omega)
  have k1:lt d[s]! d[x]! =false:=by
    by_cases q:x=e - 1
    · rw [q];exact k
    exact hS.ntrans _ _ _ k (hB x (e - 1) h1 (by omega) (by omega))
  by_cases q:y=s
  · rw [q];exact k1
  exact hS.ntrans _ _ _ (hA s y has (by omega) h4) k1
theorem sym_join {a mid b:Nat} {d d1 d2:Array α} (ham:a≤mid) (hmb:mid≤b) (hb:b≤d.size) (hx: ∀x y,a≤x→x<mid→mid≤y→y<b→lt d[y]! d[x]! =false)
    (p1:PermIn a mid d d1) (s1:SortedIn lt a mid d1) (p2:PermIn mid b d1 d2) (s2:SortedIn lt mid b d2):SortedIn lt a b d2∧PermIn a b d d2:=by
  have k1: ∀x,a≤x→x<mid→ ∀y,mid≤y→y<b→lt d1[y]! d1[x]! =false:=by
    have q:=permIn_all d d1 a mid (fun v=> ∀y,mid≤y→y<b→lt d[y]! v=false) (by omega) p1 (fun i h1 h2 y h3 h4=>hx i y h1 h2 h3 h4)
    intro x h1 h2 y h3 h4
    rw [p1.2.1 y (by omega)]
    exact q x h1 h2 y h3 h4
  have k2: ∀y,mid≤y→y<b→ ∀x,a≤x→x<mid→lt d2[y]! d2[x]! =false:=by
    have q:=permIn_all d1 d2 mid b (fun v=> ∀x,a≤x→x<mid→lt v d1[x]! =false) (by rw [p1.1];exact hb) p2 (fun i h1 h2 x h3 h4=>k1 x h3 h4 i h1 h2)
    intro y h1 h2 x h3 h4
    rw [p2.2.1 x (by omega)]
    exact q y h1 h2 x h3 h4
  refine ⟨fun i j h1 h2 h3=> ?_,permIn_trans _ _ _ _ _ (permIn_mono d d1 a mid a b (Nat.le_refl _) hmb hb p1) (permIn_mono d1 d2 mid b a b ham (Nat.le_refl _) (by rw [p1.1];exact hb) p2)⟩
  by_cases c1:j<mid
  · rw [p2.2.1 i (by omega), p2.2.1 j (by omega)]
    exact s1 i j h1 h2 c1
  by_cases c2:i<mid
  · exact k2 j (by omega) h3 i h1 c2
  exact s2 i j (by omega) h2 h3
theorem ins_left (hS:SWO lt) {a i b:Nat} {d d':Array α} (h:RotAt a (a+1) i d d') (hai:a+1≤i) (hib:i≤b) (hB:SortedIn lt (a+1) b d) (l: ∀c,a+1≤c→c<i→lt d[c]! d[a]! =true) (g: ∀c,i≤c→c<b→lt d[c]! d[a]! =false):SortedIn lt a b d':=by
  have key:=rot_src h (by omega) hai
  intro x y h1 h2 h3
  obtain ⟨q,eq,cq⟩:=key x
  obtain ⟨r,er,cr⟩:=key y
  rw [eq,er]
  by_cases cx:q=a
  · rw [cx]
    exact g r (by omega) (by omega)
  by_cases cy:r=a
  · rw [cy]
    exact hS.asymmA (l q (by omega) (by omega))
  exact hB q r (by omega) (by omega) (by omega)
theorem ins_right_ (hS:SWO lt) {a i m:Nat} {d d':Array α} (h:RotAt i m (m+1) d d') (hai:a≤i) (him:i≤m) (hA:SortedIn lt a m d) (l: ∀c,a≤c→c<i→lt d[m]! d[c]! =false) (g: ∀c,i≤c→c<m→lt d[m]! d[c]! =true):SortedIn lt a (m+1) d':=by
  have key:=rot_src h him (by omega)
  intro x y h1 h2 h3
  obtain ⟨q,eq,cq⟩:=key x
  obtain ⟨r,er,cr⟩:=key y
  rw [eq,er]
  by_cases cx:q=m
  · rw [cx]
    exact hS.asymmA (g r (by omega) (by omega))
  by_cases cy:r=m
  · rw [cy]
    exact l q (by omega) (by omega)
  exact hA q r (by omega) (by omega) (by omega)
theorem sorted_le (hS:SWO lt) {a b:Nat} {d:Array α} (h:SortedIn lt a b d) {x y:Nat} (h1:a≤x) (h2:x≤y) (h3:y<b):lt d[y]! d[x]! =false:=by
  by_cases q:x=y
  · rw [q];exact hS.irrefl _
  exact h x y h1 (by omega) h3
theorem lt_le_lt {β:Type} {lt:β→β→Bool} (hS:SWO lt) {x y z:β} (h1:lt x y=true) (h2:lt z y=false):lt x z=true:=by
 cases h:lt x z with
 |true=>rfl
 |false=>rw [hS.ntrans _ _ _ h h2] at h1;cases h1
theorem le_lt_lt {β:Type} {lt:β→β→Bool} (hS:SWO lt) {x y z:β} (h1:lt y x=false) (h2:lt y z=true):lt x z=true:=by
 cases h:lt x z with
 |true=>rfl
 |false=>rw [hS.ntrans _ _ _ h1 h] at h2;cases h2
theorem left_lt (hS:SWO lt) {a m i b:Nat} {d:Array α} (hB:SortedIn lt m b d) (hib:i≤b) (h:i=m∨lt d[i - 1]! d[a]! =true): ∀c,m≤c→c<i→lt d[c]! d[a]! =true:=by
  intro c h1 h2
  rcases h with h|h
  · omega
  exact le_lt_lt hS (sorted_le hS hB h1 (by omega:c≤i - 1) (by omega)) h
theorem left_ge (hS:SWO lt) {a m i b:Nat} {d:Array α} (hB:SortedIn lt m b d) (hmi:m≤i) (h:i=b∨lt d[i]! d[a]! =false): ∀c,i≤c→c<b→lt d[c]! d[a]! =false:=by
  intro c h1 h2
  rcases h with h|h
  · omega
  exact hS.ntrans _ _ _ (sorted_le hS hB hmi h1 h2) h
theorem right_le (hS:SWO lt) {a m i:Nat} {d:Array α} (hA:SortedIn lt a m d) (him:i≤m) (h:i=a∨lt d[m]! d[i - 1]! =false): ∀c,a≤c→c<i→lt d[m]! d[c]! =false:=by
  intro c h1 h2
  rcases h with h|h
  · omega
  exact hS.ntrans _ _ _ h (sorted_le hS hA h1 (by omega:c≤i - 1) (by omega))
theorem right_gt (hS:SWO lt) {a m i:Nat} {d:Array α} (hA:SortedIn lt a m d) (hai:a≤i) (h:i=m∨lt d[m]! d[i]! =true): ∀c,i≤c→c<m→lt d[m]! d[c]! =true:=by
  intro c h1 h2
  rcases h with h|h
  · omega
  exact lt_le_lt hS h (sorted_le hS hA hai h1 h2)
structure Turned_ (lt:α→α→Bool) (a s mid e b:Nat) (d d1:Array α):Prop where
 perm:PermIn a b d d1
 s1:SortedIn lt a s d1
 s2:SortedIn lt s mid d1
 s3:SortedIn lt mid e d1
 s4:SortedIn lt e b d1
 x: ∀x y,a≤x→x<mid→mid≤y→y<b→lt d1[y]! d1[x]! =false
theorem turned_of (hS:SWO lt) {a s m mid e b:Nat} {d d1:Array α} (hp:PermIn a b d d1) (h:RotAt s m e d d1) (has:a≤s) (hsm:s≤m) (hme:m≤e) (heb:e≤b) (he:s+(e - m)=mid) (hA:SortedIn lt a m d) (hB:SortedIn lt m b d)
    (l:(s=a∨e=b)∨lt d[e]! d[s - 1]! =false) (g:(s=m∨e=m)∨lt d[e - 1]! d[s]! =true):Turned_ lt a s mid e b d d1:=by
  obtain ⟨a1,a2,a3,a4,a5⟩:=sym_half h has hsm hme heb hA hB
    (sym_x1 hS hA hB hsm hme (fun h1 h2=>by
      rcases l with l|l
      · omega
      exact l))
    (sym_x2 hS hA hB has heb (fun h1 h2=>by
      rcases g with g|g
      · omega
      exact hS.asymmA g))
  rw [he] at a2 a3 a5
  exact ⟨hp,a1,a2,a3,a4,a5⟩
theorem sorted_whole {a s mid:Nat} {d:Array α} (h1:SortedIn lt a s d) (h2:SortedIn lt s mid d) (h: ¬(a<s∧s<mid)):SortedIn lt a mid d:=by
  intro i j k1 k2 k3
  by_cases q:a<s
  · exact h1 i j k1 k2 (by omega)
  exact h2 i j (by omega) k2 k3
def Blocks (lt:α→α→Bool) (s n:Nat) (d:Array α):Prop:= ∀c,SortedIn lt (c*s) (min (c*s+s) n) d
def Mixed (lt:α→α→Bool) (s n t:Nat) (d:Array α):Prop:=(∀c,c<t→SortedIn lt (c*(2*s)) (min (c*(2*s)+2*s) n) d)∧ ∀c,2*t≤c→SortedIn lt (c*s) (min (c*s+s) n) d
theorem mixed_zero {s n:Nat} {d:Array α} (h:Blocks lt s n d):Mixed lt s n 0 d:=⟨fun c hc=>by omega,fun c _=>h c⟩
theorem sorted_congr {a b:Nat} {d d':Array α} (h:SortedIn lt a b d) (he: ∀k,a≤k→k<b→d'[k]! =d[k]!):SortedIn lt a b d':=fun i j h1 h2 h3=>by rw [he i h1 (by omega),he j (by omega) h3];exact h i j h1 h2 h3
theorem mul2 (t s:Nat):2*t*s=t*(2*s):=by rw [Nat.mul_comm 2 t,Nat.mul_assoc]
theorem mixed_step {s n t:Nat} {d d':Array α} (h:Mixed lt s n t d) (hp:PermIn (t*(2*s)) (min (t*(2*s)+2*s) n) d d') (hs:SortedIn lt (t*(2*s)) (min (t*(2*s)+2*s) n) d'):Mixed lt s n (t+1) d':=by
  refine ⟨fun c hc=> ?_,fun c hc=> ?_⟩
  rotate_left
  · have h1 : (2 * (t + 1)) * s ≤ c * s := Nat.mul_le_mul_right _ hc
    rw [mul2,Nat.add_mul,Nat.one_mul] at h1
    exact sorted_congr (h.2 c (by omega)) (fun k h2 _=>hp.2.1 k (.inr (by omega)))
  by_cases e:c=t
  · rw [e];exact hs
  have h1:(c+1)*(2*s)≤t*(2*s):=Nat.mul_le_mul_right _ (by omega)
  rw [Nat.add_mul,Nat.one_mul] at h1
  exact sorted_congr (h.1 c (by omega)) (fun k _ h3=>hp.2.1 k (.inl (by omega)))
theorem mixed_at {s n t:Nat} {d:Array α} (h:Mixed lt s n t d):SortedIn lt (t*(2*s)) (min (t*(2*s)+s) n) d∧SortedIn lt (t*(2*s)+s) (min (t*(2*s)+2*s) n) d:=by
 have h1:=h.2 (2*t) (Nat.le_refl _)
 have h2:=h.2 (2*t+1) (by omega)
 rw [Nat.add_mul,Nat.one_mul,mul2] at h2
 rw [mul2] at h1
 refine ⟨h1, ?_⟩
 rw [show t*(2*s)+2*s=t*(2*s)+s+s by omega]
 exact h2
theorem mixed_end {s n t:Nat} {d:Array α} (h:Mixed lt s n t d) (he:n≤t*(2*s)+s):Blocks lt (2*s) n d:=by
  intro c
  by_cases hc:c<t
  · exact h.1 c hc
  have h1:t*(2*s)≤c*(2*s):=Nat.mul_le_mul_right _ (by omega)
  by_cases e:c=t
  · rw [e]
    intro i j a1 a2 a3
    exact (mixed_at h).1 i j a1 a2 (by omega)
  have h2:(t+1)*(2*s)≤c*(2*s):=Nat.mul_le_mul_right _ (by omega)
  rw [Nat.add_mul,Nat.one_mul] at h2
  intro i j a1 a2 a3
  omega
theorem mixed_last {s n t:Nat} {d:Array α} (h:Mixed lt s n (t+1) d) (he:n≤t*(2*s)+2*s):Blocks lt (2*s) n d:=by
  intro c
  by_cases hc:c<t+1
  · exact h.1 c hc
  have h2:(t+1)*(2*s)≤c*(2*s):=Nat.mul_le_mul_right _ (by omega)
  rw [Nat.add_mul,Nat.one_mul] at h2
  intro i j a1 a2 a3
  omega
theorem blocks_all {s n:Nat} {d:Array α} (h:Blocks lt s n d) (hs:n≤s):SortedIn lt 0 n d:=by
 have q:=h 0
 rw [Nat.zero_mul,Nat.zero_add,Nat.min_eq_right hs] at q
 exact q
def Upto (lt:α→α→Bool) (s n t:Nat) (d:Array α):Prop:= ∀c,c<t→SortedIn lt (c*s) (min (c*s+s) n) d
theorem upto_step {s n t:Nat} {d d':Array α} (h:Upto lt s n t d) (hp:PermIn (t*s) (min (t*s+s) n) d d') (hs:SortedIn lt (t*s) (min (t*s+s) n) d'):Upto lt s n (t+1) d':=by
  intro c hc
  by_cases e:c=t
  · rw [e];exact hs
  have h1:(c+1)*s≤t*s:=Nat.mul_le_mul_right _ (by omega)
  rw [Nat.add_mul,Nat.one_mul] at h1
  exact sorted_congr (h c (by omega)) (fun k _ h3=>hp.2.1 k (.inl (by omega)))
theorem upto_all {s n t:Nat} {d:Array α} (h:Upto lt s n t d) (hn:n≤t*s):Blocks lt s n d:=by
  intro c
  by_cases hc:c<t
  · exact h c hc
  have h1:t*s≤c*s:=Nat.mul_le_mul_right _ (by omega)
  intro i j a1 a2 a3
  omega
theorem part_perm {a b n:Nat} {d0 d d':Array α} (h0:PermIn 0 n d0 d) (hp:PermIn a b d d') (hb:b≤n) (hn:n≤d.size):PermIn 0 n d0 d':=permIn_trans _ _ _ _ _ h0 (permIn_mono d d' a b 0 n (Nat.zero_le _) hb hn hp)
end Go.Proofs.Ytahidkjncljkaaa.Print

namespace Go.Proofs.Ytahidkjncljkaaa.Print
open Go.Shelf Go.RowKit Go.Lib Go.Sort
structure SortT (P:Program) (k:Nat):Prop where
 mixed:P.follows .mixedOrders=true
 t0:P.underlying 0=some (TypeDesc.tuple #[])
 a0: ∀w,(isAgg 0).run P w= .ok false w
 z0: ∀w,(Go.sizeOf 0).run P w= .ok 1 w
 v0: ∀w,(zeroValue 0).run P w= .ok (Value.tuple #[]) w
 t3:P.underlying 3=some (TypeDesc.int IntKind.i64)
 a3: ∀w,(isAgg 3).run P w= .ok false w
 z3: ∀w,(Go.sizeOf 3).run P w= .ok 1 w
 v3: ∀w,(zeroValue 3).run P w= .ok (Value.int IntKind.i64 0) w
 t4:P.underlying 4=some (TypeDesc.bool)
 a4: ∀w,(isAgg 4).run P w= .ok false w
 z4: ∀w,(Go.sizeOf 4).run P w= .ok 1 w
 v4: ∀w,(zeroValue 4).run P w= .ok (Value.bool false) w
 t5:P.underlying 207=some (TypeDesc.int IntKind.u64)
 a5: ∀w,(isAgg 207).run P w= .ok false w
 z5: ∀w,(Go.sizeOf 207).run P w= .ok 1 w
 v5: ∀w,(zeroValue 207).run P w= .ok (Value.int IntKind.u64 0) w
 t22:P.underlying 22=some (TypeDesc.slice 39)
 a22: ∀w,(isAgg 22).run P w= .ok false w
 z22: ∀w,(Go.sizeOf 22).run P w= .ok 1 w
 v22: ∀w,(zeroValue 22).run P w= .ok (Value.slice none 0 0) w
 t25:P.underlying 121=some (TypeDesc.func #[39,39] #[3] false)
 a25: ∀w,(isAgg 121).run P w= .ok false w
 z25: ∀w,(Go.sizeOf 121).run P w= .ok 1 w
 v25: ∀w,(zeroValue 121).run P w= .ok (Value.nilFunc) w
 aE: ∀w,(isAgg 39).run P w= .ok true w
 zE: ∀w,(Go.sizeOf 39).run P w= .ok k w

set_option maxHeartbeats 4000000 in
set_option maxRecDepth 1000000 in
theorem swapRange_w {P:Program} {α:Type} [Inhabited α] (F:P.funcs[176]?=some Try.f176) {k:Nat} (L:SortT P k) (enc:α→List Value) (g:Nat) (cb:Array Value) (blk off cap a b n:Nat) (d0 d:Array α) (w0 w:World)
    (R:RowK enc k w0 blk off d0) (hs:d0.size=d.size) (S:SWK enc k w0 blk off d w) (hab:a+n≤b) (hb:b+n≤d.size) (hsz:d.size<4611686018427387904):
    Calls P 176 #[.slice (some ⟨blk,off,none⟩) d.size cap, .int .i64 a, .int .i64 b, .int .i64 n, .func (.func g) #[] cb] w fun e w'=>e= .returned (.tuple #[])∧ ∃d',SWK enc k w0 blk off d' w'∧SwapAt a b n d d'∧PermIn a (b+n) d d':=by
  have mixed:=L.mixed;have t0:=L.t0;have a0:=L.a0;have z0:=L.z0;have v0:=L.v0;have t3:=L.t3;have a3:=L.a3;have z3:=L.z3;have v3:=L.v3;have t4:=L.t4;have a4:=L.a4;have z4:=L.z4;have v4:=L.v4;have t5:=L.t5;have a5:=L.a5;have z5:=L.z5;have v5:=L.v5;have t22:=L.t22;have a22:=L.a22;have z22:=L.z22;have v22:=L.v22;have t25:=L.t25;have a25:=L.a25;have z25:=L.z25;have v25:=L.v25;have aE:=L.aE;have zE:=L.zE
  have u0:=run_underlying L.t0;have u3:=run_underlying L.t3;have u4:=run_underlying L.t4;have u5:=run_underlying L.t5;have u22:=run_underlying L.t22
  have S0:Aside (SWK enc k w0 blk off d w):=S
  clear S
  go_enter F,Try.ntmps176
  go_wp2
  go_loopg [10] n (fun kx s10 wr=> ∃(i:Nat) (dk:Array α),s10= .int .i64 i∧i≤n∧n - i≤kx∧dk.size=d.size∧Aside (SWK enc k w0 blk off dk wr)∧Hid (SwapAt a b i d dk∧PermIn a (b+n) d dk))
  case atStart=>exact ⟨0,d,rfl,by omega,by omega,rfl,S0,(⟨swapAt_zero _ _ _,permIn_refl _ _ _⟩:_∧_)⟩
  case round=>
    clear S0
    obtain ⟨i,dk,rfl,hin,hkx,hds,S1,HH⟩:=hrel
    by_cases hlt:i<n
    · have hltz : (i : Int) < (n : Int) := by omega
      go_wp2_with fail
      have eaq:((a:Int)+(i:Int)).toNat=a+i:=by omega
      have paq:(0:Int)≤(a:Int)+(i:Int):=by omega
      have baq:(a:Int)+(i:Int)<(d.size:Int):=by omega
      have raq:IntKind.i64.wrap ((a:Int)+(i:Int))=(a:Int)+(i:Int):=by rw [IntKind.wrap_i64];omega
      have ecq:((b:Int)+(i:Int)).toNat=b+i:=by omega
      have pcq:(0:Int)≤(b:Int)+(i:Int):=by omega
      have bcq:(b:Int)+(i:Int)<(d.size:Int):=by omega
      have rcq:IntKind.i64.wrap ((b:Int)+(i:Int))=(b:Int)+(i:Int):=by rw [IntKind.wrap_i64];omega
      have S2:Aside (SWK enc k w0 blk off (swp dk (a+i) (b+i)) ((wr.drew.setCells blk (off+(a+i)*k) (enc dk[b+i]!)).setCells blk (off+(b+i)*k) (enc dk[a+i]!))):=S1.out.swapped R (a+i) (b+i) (by omega) (by omega)
      have laq:=S1.out.ld1 R (by omega) P (a+i) (by omega)
      have lbq:=S1.out.ld1 R (by omega) P (b+i) (by omega)
      have saq:=S1.out.st1 R (by omega) P (a+i) (by omega) dk[b+i]!
      have sbq:=S1.out.st2 R (by omega) P (a+i) (b+i) (by omega) (by omega) dk[b+i]! dk[a+i]!
      have naq:(enc dk[a+i]!).length=k:=R.hk _
      have nbq:(enc dk[b+i]!).length=k:=R.hk _
      generalize enc dk[a+i]! =cIq at S2 laq sbq naq
      generalize enc dk[b+i]! =cJq at S2 lbq saq sbq nbq
      clear S1
      go_wp2_with fail
      go_big_region_o
      clear laq lbq saq sbq
      generalize (wr.drew.setCells blk (off+(a+i)*k) cJq).setCells blk (off+(b+i)*k) cIq=w2 at S2 ⊢
      go_wp2
      go_roundg (n - (i+1))
      case measure=>omega
      case rel=>
        have HH2:Hid (SwapAt a b (i+1) d (swp dk (a+i) (b+i))∧PermIn a (b+n) d (swp dk (a+i) (b+i))):=(⟨swapAt_step HH.out.1 (by omega) (by omega),permIn_trans _ _ _ _ _ HH.out.2 (swp_permIn dk a (b+n) (a+i) (b+i) (by omega) (by omega) (by omega) (by omega) (by omega))⟩:_∧_)
        exact ⟨i+1,swp dk (a+i) (b+i),by go_num,by omega,Nat.le_refl _,by rw [size_swp];exact hds,S2,HH2⟩
    · have hltz : ¬ (i : Int) < (n : Int) := by omega
      obtain rfl:i=n:=by omega
      go_wp2
      go_end0
      exact ⟨rfl,dk,S1.out,HH.out.1,HH.out.2⟩
set_option maxHeartbeats 4000000 in
set_option maxRecDepth 1000000 in
theorem rotate_w {P:Program} {α:Type} [Inhabited α] (FS:P.funcs[176]?=some Try.f176) (F:P.funcs[169]?=some Try.f169) {k:Nat} (L:SortT P k) (enc:α→List Value) (g:Nat) (cb:Array Value) (blk off cap a m b:Nat) (d0 d:Array α) (w0 w:World)
    (R:RowK enc k w0 blk off d0) (hs:d0.size=d.size) (S:SWK enc k w0 blk off d w) (ham:a<m) (hmb:m<b) (hb:b≤d.size) (hsz:d.size<4611686018427387904):
    Calls P 169 #[.slice (some ⟨blk,off,none⟩) d.size cap, .int .i64 a, .int .i64 m, .int .i64 b, .func (.func g) #[] cb] w fun e w'=>e= .returned (.tuple #[])∧ ∃d',SWK enc k w0 blk off d' w'∧RotAt a m b d d'∧PermIn a b d d':=by
  have mixed:=L.mixed;have t0:=L.t0;have a0:=L.a0;have z0:=L.z0;have v0:=L.v0;have t3:=L.t3;have a3:=L.a3;have z3:=L.z3;have v3:=L.v3;have t4:=L.t4;have a4:=L.a4;have z4:=L.z4;have v4:=L.v4;have t5:=L.t5;have a5:=L.a5;have z5:=L.z5;have v5:=L.v5;have t22:=L.t22;have a22:=L.a22;have z22:=L.z22;have v22:=L.v22;have t25:=L.t25;have a25:=L.a25;have z25:=L.z25;have v25:=L.v25;have aE:=L.aE;have zE:=L.zE
  have u0:=run_underlying L.t0;have u3:=run_underlying L.t3;have u4:=run_underlying L.t4;have u5:=run_underlying L.t5;have u22:=run_underlying L.t22
  have S0:Aside (SWK enc k w0 blk off d w):=S
  clear S
  have eS: ∀args w,(callFunc 176 args).run P w= .ok (.enter 176 args) w:=enters_of FS (by kernel_rfl) rfl
  go_enter F,Try.ntmps169
  go_wp2
  go_loopg [10,11] (b - a) (fun kx s10 s11 wr=> ∃(i j:Nat) (dk:Array α),s10= .int .i64 i∧s11= .int .i64 j∧0<i∧0<j∧i≤m - a∧j≤b - m∧i+j≤kx∧dk.size=d.size∧Aside (SWK enc k w0 blk off dk wr)∧Hid ((∀d',RotAt (m - i) m (m+j) dk d'→RotAt a m b d d')∧PermIn a b d dk))
  case atStart=>exact ⟨m - a,b - m,d,by rw [show ((m - a:Nat):Int)=(m:Int) - (a:Int) by omega],by rw [show ((b - m:Nat):Int)=(b:Int) - (m:Int) by omega],by omega,by omega,by omega,by omega,by omega,rfl,S0,(⟨fun d' h=>by rwa [show m - (m - a)=a by omega,show m+(b - m)=b by omega] at h,permIn_refl _ _ _⟩:_∧_)⟩
  case round=>
    clear S0
    obtain ⟨i,j,dk,rfl,rfl,hi0,hj0,him,hjm,hkx,hds,S1,HH⟩:=hrel
    by_cases hne:i=j
    · subst hne
      have ha':((m - i:Nat):Int)=(m:Int) - (i:Int):=by omega
      have hcall:=swapRange_w FS L enc g cb blk off cap (m - i) m i d0 dk w0 wr R (by omega) S1.out (by omega) (by omega) (by omega)
      rw [ha',hds] at hcall
      clear S1
      have hnz:((i:Int) !=(i:Int))=false:=by simp
      go_wp2_with (go_at_fn 176;refine hcall.mono ?_;rintro e w1 ⟨rfl,d',S2,X,Y⟩;have XX:Hid (SwapAt (m - i) m i dk d'∧PermIn (m - i) (m+i) dk d'):=(⟨X,Y⟩:_∧_);have S3:Aside (SWK enc k w0 blk off d' w1):=S2;clear X Y S2)
      go_end0
      exact ⟨rfl,d',S3.out,HH.out.1 d' (rot_same (by omega) XX.out.1),permIn_trans _ _ _ _ _ HH.out.2 (permIn_mono dk d' (m - i) (m+i) a b (by omega) (by omega) (by omega) XX.out.2)⟩
    · have hnz : ((i : Int) != (j : Int)) = true := by simp; omega
      by_cases hgt:j<i
      · have hgz : (j : Int) < (i : Int) := by omega
        have ha':((m - i:Nat):Int)=(m:Int) - (i:Int):=by omega
        have hcall:=swapRange_w FS L enc g cb blk off cap (m - i) m j d0 dk w0 wr R (by omega) S1.out (by omega) (by omega) (by omega)
        rw [ha',hds] at hcall
        clear S1
        go_wp2_with (go_at_fn 176;refine hcall.mono ?_;rintro e w1 ⟨rfl,d',S2,X,Y⟩;have XX:Hid (SwapAt (m - i) m j dk d'∧PermIn (m - i) (m+j) dk d'):=(⟨X,Y⟩:_∧_);have S3:Aside (SWK enc k w0 blk off d' w1):=S2;clear X Y S2)
        go_roundg (i - j+j)
        case measure=>omega
        case rel=>
          have hd':d'.size=d.size:=by rw [XX.out.1.1];exact hds
          have HH2:Hid ((∀d2,RotAt (m - (i - j)) m (m+j) d' d2→RotAt a m b d d2)∧PermIn a b d d'):=(⟨fun d2 h=>HH.out.1 d2 (rot_more hgt (by omega) XX.out.1 h),permIn_trans _ _ _ _ _ HH.out.2 (permIn_mono dk d' (m - i) (m+j) a b (by omega) (by omega) (by omega) XX.out.2)⟩:_∧_)
          exact ⟨i - j,j,d',by rw [show ((i - j:Nat):Int)=(i:Int) - (j:Int) by omega],rfl,by omega,hj0,by omega,hjm,Nat.le_refl _,hd',S3,HH2⟩
      · have hgz : ¬ (j : Int) < (i : Int) := by omega
        have ha':((m - i:Nat):Int)=(m:Int) - (i:Int):=by omega
        have hb':((m+j - i:Nat):Int)=(m:Int)+(j:Int) - (i:Int):=by omega
        have hcall:=swapRange_w FS L enc g cb blk off cap (m - i) (m+j - i) i d0 dk w0 wr R (by omega) S1.out (by omega) (by omega) (by omega)
        rw [ha',hb',hds] at hcall
        clear S1
        go_wp2_with (go_at_fn 176;refine hcall.mono ?_;rintro e w1 ⟨rfl,d',S2,X,Y⟩;have XX:Hid (SwapAt (m - i) (m+j - i) i dk d'∧PermIn (m - i) (m+j - i+i) dk d'):=(⟨X,Y⟩:_∧_);have S3:Aside (SWK enc k w0 blk off d' w1):=S2;clear X Y S2)
        go_roundg (i+(j - i))
        case measure=>omega
        case rel=>
          have hd':d'.size=d.size:=by rw [XX.out.1.1];exact hds
          have HH2:Hid ((∀d2,RotAt (m - i) m (m+(j - i)) d' d2→RotAt a m b d d2)∧PermIn a b d d'):=(⟨fun d2 h=>HH.out.1 d2 (rot_less (by omega) (by omega) XX.out.1 h),permIn_trans _ _ _ _ _ HH.out.2 (permIn_mono dk d' (m - i) (m+j - i+i) a b (by omega) (by omega) (by omega) XX.out.2)⟩:_∧_)
          exact ⟨i,j - i,d',rfl,by rw [show ((j - i:Nat):Int)=(j:Int) - (i:Int) by omega],hi0,by omega,him,by omega,Nat.le_refl _,hd',S3,HH2⟩
def SymR {α:Type} [Inhabited α] (P:Program) (enc:α→List Value) (cf:α→α→Int) (k g:Nat) (cb:Array Value) (blk off cap:Nat) (w0:World) (a m b:Nat) (d:Array α) (w:World):Prop:=
 Calls P 148 #[.slice (some ⟨blk,off,none⟩) d.size cap, .int .i64 a, .int .i64 m, .int .i64 b, .func (.func g) #[] cb] w fun e w'=>e= .returned (.tuple #[])∧ ∃d',SWK enc k w0 blk off d' w'∧SortedIn (ltOf cf) a b d'∧PermIn a b d d'
def SymN {α:Type} [Inhabited α] (P:Program) (enc:α→List Value) (cf:α→α→Int) (k g:Nat) (cb:Array Value) (blk off cap:Nat) (d0:Array α) (w0:World) (N:Nat):Prop:=
 ∀(a m b:Nat) (d:Array α) (w:World),b - a≤N→d0.size=d.size→SWK enc k w0 blk off d w→a<m→m<b→b≤d.size→SortedIn (ltOf cf) a m d→SortedIn (ltOf cf) m b d→SymR P enc cf k g cb blk off cap w0 a m b d w
set_option maxHeartbeats 8000000 in
set_option maxRecDepth 1000000 in
theorem symMerge_one {P:Program} {α:Type} [Inhabited α] (FS:P.funcs[176]?=some Try.f176) (FR:P.funcs[169]?=some Try.f169) (F:P.funcs[148]?=some Try.f148) {k:Nat} (L:SortT P k) (enc:α→List Value) (cf:α→α→Int) (g:Nat) (cb:Array Value) (blk off cap:Nat) (d0:Array α) (w0:World)
    (eg: ∀args w,(callFunc g args).run P w= .ok (.enter g args) w) (hcmp:CmpLays P g cb enc k cf blk off d0.size w0) (R:RowK enc k w0 blk off d0) (hO:SWO (ltOf cf)) (hsz:d0.size<2305843009213693952)
    (a m b:Nat) (d:Array α) (w:World) (c1:m=a+1) (hs:d0.size=d.size) (S:SWK enc k w0 blk off d w) (ham:a<m) (hmb:m<b) (hb:b≤d.size) (sA:SortedIn (ltOf cf) a m d) (sB:SortedIn (ltOf cf) m b d):SymR P enc cf k g cb blk off cap w0 a m b d w:=by
  unfold SymR
  have mixed:=L.mixed;have t0:=L.t0;have a0:=L.a0;have z0:=L.z0;have v0:=L.v0;have t3:=L.t3;have a3:=L.a3;have z3:=L.z3;have v3:=L.v3;have t4:=L.t4;have a4:=L.a4;have z4:=L.z4;have v4:=L.v4;have t5:=L.t5;have a5:=L.a5;have z5:=L.z5;have v5:=L.v5;have t22:=L.t22;have a22:=L.a22;have z22:=L.z22;have v22:=L.v22;have t25:=L.t25;have a25:=L.a25;have z25:=L.z25;have v25:=L.v25;have aE:=L.aE;have zE:=L.zE
  have u0:=run_underlying L.t0;have u3:=run_underlying L.t3;have u4:=run_underlying L.t4;have u5:=run_underlying L.t5;have u22:=run_underlying L.t22
  have eR: ∀args w,(callFunc 169 args).run P w= .ok (.enter 169 args) w:=enters_of FR (by kernel_rfl) rfl
  have eY: ∀args w,(callFunc 148 args).run P w= .ok (.enter 148 args) w:=enters_of F (by kernel_rfl) rfl
  have HC:Aside _:=hcmp
  have S0:Aside (SWK enc k w0 blk off d w):=S
  have SS:Hid (SortedIn (ltOf cf) a m d∧SortedIn (ltOf cf) m b d):=(⟨sA,sB⟩:_∧_)
  clear hcmp S sA sB
  have c1z:(m:Int) - (a:Int)=1:=by omega
  have C1:Hid (m=a+1):=c1
  clear c1
  go_enter F,Try.ntmps148
  go_wp2
  go_loopg [10,11] (b - a) (fun kx s10 s11 wr=> ∃lo hi:Nat,s10= .int .i64 lo∧s11= .int .i64 hi∧m≤lo∧lo≤hi∧hi≤b∧hi - lo≤kx∧Aside (SWK enc k w0 blk off d wr)∧Hid ((lo=m∨ltOf cf d[lo - 1]! d[a]! =true)∧(hi=b∨ltOf cf d[hi]! d[a]! =false)))
  case atStart=>exact ⟨m,b,rfl,rfl,Nat.le_refl _,by omega,Nat.le_refl _,by omega,S0,(⟨.inl rfl, .inl rfl⟩:_∧_)⟩
  case round=>
    clear S0
    obtain ⟨lo,hi,rfl,rfl,hml,hlh,hhb,hg,S1,I⟩:=hrel
    by_cases hlt:lo<hi
    · have hltz : (lo : Int) < (hi : Int) := by omega
      cases hlv:ltOf cf d[(lo+hi) / 2]! d[a]! with
      | true =>
        have eaht:(((lo:Int)+(hi:Int)) / 2).toNat=(lo+hi) / 2:=by omega
        have paht:(0:Int)≤((lo:Int)+(hi:Int)) / 2:=by omega
        have baht:((lo:Int)+(hi:Int)) / 2<(d.size:Int):=by omega
        have raht:IntKind.i64.wrap (((lo:Int)+(hi:Int)) / 2)=((lo:Int)+(hi:Int)) / 2:=by rw [IntKind.wrap_i64];omega
        have echt:((a:Int)).toNat=a:=by omega
        have pcht:(0:Int)≤(a:Int):=by omega
        have bcht:(a:Int)<(d.size:Int):=by omega
        have rcht:IntKind.i64.wrap ((a:Int))=(a:Int):=by rw [IntKind.wrap_i64];omega
        obtain ⟨xht,hxht⟩: ∃x,x=d[(lo+hi) / 2]!:=⟨_,rfl⟩
        obtain ⟨yht,hyht⟩: ∃x,x=d[a]!:=⟨_,rfl⟩
        have laht:=S1.out.ld R (by omega) P ((lo+hi) / 2) (by omega)
        have lbht:=S1.out.ld R (by omega) P (a) (by omega)
        rw [←hxht] at laht
        rw [←hyht] at lbht
        have hcht:=S1.out.cmp HC.out (by omega) xht yht
        have hvht:cf xht yht<0:=by rw [hxht,hyht];exact of_decide_eq_true hlv
        have hdht:decide (cf xht yht<0)=true:=decide_eq_true hvht
        clear hxht hyht
        go_wp2_with fail
        go_quiet_grown (first|(go_at_fn g;refine Calls.grown_of (hcht _ _)))
        have S2:Aside (SWK enc k w0 blk off d (grow (wr.drewN nq) osq)):=S1.out.grown nq osq
        clear laht lbht hcht S1
        generalize grow (wr.drewN nq) osq=w2 at S2 ⊢
        clear nq osq
        go_wp2
        go_roundg (hi - ((lo+hi) / 2+1))
        case measure=>omega
        case rel=>
          have I2:Hid ((((lo+hi) / 2+1)=m∨ltOf cf d[((lo+hi) / 2+1) - 1]! d[a]! =true)∧(hi=b∨ltOf cf d[hi]! d[a]! =false)):=(⟨.inr hlv,I.out.2⟩:_∧_)
          exact ⟨(lo+hi) / 2+1,hi,by rw [show ((lo:Int)+(hi:Int)) / 2+1=(((lo+hi) / 2+1:Nat):Int) by omega],rfl,by omega,by omega,by omega,Nat.le_refl _,S2,I2⟩
      | false =>
        have eahf:(((lo:Int)+(hi:Int)) / 2).toNat=(lo+hi) / 2:=by omega
        have pahf:(0:Int)≤((lo:Int)+(hi:Int)) / 2:=by omega
        have bahf:((lo:Int)+(hi:Int)) / 2<(d.size:Int):=by omega
        have rahf:IntKind.i64.wrap (((lo:Int)+(hi:Int)) / 2)=((lo:Int)+(hi:Int)) / 2:=by rw [IntKind.wrap_i64];omega
        have echf:((a:Int)).toNat=a:=by omega
        have pchf:(0:Int)≤(a:Int):=by omega
        have bchf:(a:Int)<(d.size:Int):=by omega
        have rchf:IntKind.i64.wrap ((a:Int))=(a:Int):=by rw [IntKind.wrap_i64];omega
        obtain ⟨xhf,hxhf⟩: ∃x,x=d[(lo+hi) / 2]!:=⟨_,rfl⟩
        obtain ⟨yhf,hyhf⟩: ∃x,x=d[a]!:=⟨_,rfl⟩
        have lahf:=S1.out.ld R (by omega) P ((lo+hi) / 2) (by omega)
        have lbhf:=S1.out.ld R (by omega) P (a) (by omega)
        rw [←hxhf] at lahf
        rw [←hyhf] at lbhf
        have hchf:=S1.out.cmp HC.out (by omega) xhf yhf
        have hvhf: ¬cf xhf yhf<0:=by rw [hxhf,hyhf];exact of_decide_eq_false hlv
        have hdhf:decide (cf xhf yhf<0)=false:=decide_eq_false hvhf
        clear hxhf hyhf
        go_wp2_with fail
        go_quiet_grown (first|(go_at_fn g;refine Calls.grown_of (hchf _ _)))
        have S2:Aside (SWK enc k w0 blk off d (grow (wr.drewN nq) osq)):=S1.out.grown nq osq
        clear lahf lbhf hchf S1
        generalize grow (wr.drewN nq) osq=w2 at S2 ⊢
        clear nq osq
        go_wp2
        go_roundg ((lo+hi) / 2 - lo)
        case measure=>omega
        case rel=>
          have I2:Hid ((lo=m∨ltOf cf d[lo - 1]! d[a]! =true)∧(((lo+hi) / 2)=b∨ltOf cf d[((lo+hi) / 2)]! d[a]! =false)):=(⟨I.out.1, .inr hlv⟩:_∧_)
          exact ⟨lo,(lo+hi) / 2,rfl,by rw [show ((lo:Int)+(hi:Int)) / 2=(((lo+hi) / 2:Nat):Int) by omega],by omega,by omega,by omega,Nat.le_refl _,S2,I2⟩
    · obtain rfl : hi = lo := by omega
      have hltz: ¬(hi:Int)<(hi:Int):=by omega
      go_wp2
      go_loopg [13] (b - a) (fun kx s13 wr2=> ∃(q:Nat) (dk:Array α),s13= .int .i64 q∧a≤q∧q+1≤hi∧hi - q≤kx∧dk.size=d.size∧Aside (SWK enc k w0 blk off dk wr2)∧Hid (RotAt a (a+1) (q+1) d dk∧PermIn a b d dk))
      case atStart=>exact ⟨a,d,rfl,Nat.le_refl _,by omega,by omega,rfl,S1,(⟨rot_right _ _ _,permIn_refl _ _ _⟩:_∧_)⟩
      case round=>
        clear S1
        obtain ⟨q,dk,rfl,haq,hqh,hg2,hds,S1,HH⟩:=hrel
        by_cases hq:q+1<hi
        · have hqz : (q : Int) < (hi : Int) - 1 := by omega
          go_wp2_with fail
          have eaq:((q:Int)).toNat=q:=by omega
          have paq:(0:Int)≤(q:Int):=by omega
          have baq:(q:Int)<(d.size:Int):=by omega
          have raq:IntKind.i64.wrap ((q:Int))=(q:Int):=by rw [IntKind.wrap_i64];omega
          have ecq:((q:Int)+1).toNat=q+1:=by omega
          have pcq:(0:Int)≤(q:Int)+1:=by omega
          have bcq:(q:Int)+1<(d.size:Int):=by omega
          have rcq:IntKind.i64.wrap ((q:Int)+1)=(q:Int)+1:=by rw [IntKind.wrap_i64];omega
          have S2:Aside (SWK enc k w0 blk off (swp dk (q) (q+1)) ((wr.drew.setCells blk (off+(q)*k) (enc dk[q+1]!)).setCells blk (off+(q+1)*k) (enc dk[q]!))):=S1.out.swapped R (q) (q+1) (by omega) (by omega)
          have laq:=S1.out.ld1 R (by omega) P (q) (by omega)
          have lbq:=S1.out.ld1 R (by omega) P (q+1) (by omega)
          have saq:=S1.out.st1 R (by omega) P (q) (by omega) dk[q+1]!
          have sbq:=S1.out.st2 R (by omega) P (q) (q+1) (by omega) (by omega) dk[q+1]! dk[q]!
          have naq:(enc dk[q]!).length=k:=R.hk _
          have nbq:(enc dk[q+1]!).length=k:=R.hk _
          generalize enc dk[q]! =cIq at S2 laq sbq naq
          generalize enc dk[q+1]! =cJq at S2 lbq saq sbq nbq
          clear S1
          go_wp2_with fail
          go_big_region_o
          clear laq lbq saq sbq
          generalize (wr.drew.setCells blk (off+(q)*k) cJq).setCells blk (off+(q+1)*k) cIq=w3 at S2 ⊢
          go_wp2
          go_roundg (hi - (q+1))
          case measure=>omega
          case rel=>
            have HH2:Hid (RotAt a (a+1) (q+1+1) d (swp dk q (q+1))∧PermIn a b d (swp dk q (q+1))):=(⟨rot_up HH.out.1 haq (by omega),permIn_trans _ _ _ _ _ HH.out.2 (swp_permIn dk a b q (q+1) (by omega) (by omega) (by omega) (by omega) (by omega))⟩:_∧_)
            exact ⟨q+1,swp dk q (q+1),by go_num,by omega,by omega,Nat.le_refl _,by rw [size_swp];exact hds,S2,HH2⟩
        · have hqz : ¬ (q : Int) < (hi : Int) - 1 := by omega
          go_wp2
          (try simp only [Exit.inBlock,Exit.then]);refine bodyPost_ret (results_none rfl _ _ _) rfl ?_
          refine ⟨rfl,dk,S1.out, ?_,HH.out.2⟩
          have hr:=HH.out.1
          rw [show q+1=hi by omega] at hr
          have sB:=SS.out.2
          rw [C1.out] at sB
          have i1:=I.out.1
          rw [C1.out] at i1
          exact ins_left hO hr (by omega) hhb sB (left_lt hO sB hhb i1) (left_ge hO sB (by omega) I.out.2)
set_option maxHeartbeats 8000000 in
set_option maxRecDepth 1000000 in
theorem symMerge_last {P:Program} {α:Type} [Inhabited α] (FS:P.funcs[176]?=some Try.f176) (FR:P.funcs[169]?=some Try.f169) (F:P.funcs[148]?=some Try.f148) {k:Nat} (L:SortT P k) (enc:α→List Value) (cf:α→α→Int) (g:Nat) (cb:Array Value) (blk off cap:Nat) (d0:Array α) (w0:World)
    (eg: ∀args w,(callFunc g args).run P w= .ok (.enter g args) w) (hcmp:CmpLays P g cb enc k cf blk off d0.size w0) (R:RowK enc k w0 blk off d0) (hO:SWO (ltOf cf)) (hsz:d0.size<2305843009213693952)
    (a m b:Nat) (d:Array α) (w:World) (c1: ¬m=a+1) (c2:b=m+1) (hs:d0.size=d.size) (S:SWK enc k w0 blk off d w) (ham:a<m) (hmb:m<b) (hb:b≤d.size) (sA:SortedIn (ltOf cf) a m d) (sB:SortedIn (ltOf cf) m b d):SymR P enc cf k g cb blk off cap w0 a m b d w:=by
  unfold SymR
  have mixed:=L.mixed;have t0:=L.t0;have a0:=L.a0;have z0:=L.z0;have v0:=L.v0;have t3:=L.t3;have a3:=L.a3;have z3:=L.z3;have v3:=L.v3;have t4:=L.t4;have a4:=L.a4;have z4:=L.z4;have v4:=L.v4;have t5:=L.t5;have a5:=L.a5;have z5:=L.z5;have v5:=L.v5;have t22:=L.t22;have a22:=L.a22;have z22:=L.z22;have v22:=L.v22;have t25:=L.t25;have a25:=L.a25;have z25:=L.z25;have v25:=L.v25;have aE:=L.aE;have zE:=L.zE
  have u0:=run_underlying L.t0;have u3:=run_underlying L.t3;have u4:=run_underlying L.t4;have u5:=run_underlying L.t5;have u22:=run_underlying L.t22
  have eR: ∀args w,(callFunc 169 args).run P w= .ok (.enter 169 args) w:=enters_of FR (by kernel_rfl) rfl
  have eY: ∀args w,(callFunc 148 args).run P w= .ok (.enter 148 args) w:=enters_of F (by kernel_rfl) rfl
  have HC:Aside _:=hcmp
  have S0:Aside (SWK enc k w0 blk off d w):=S
  have SS:Hid (SortedIn (ltOf cf) a m d∧SortedIn (ltOf cf) m b d):=(⟨sA,sB⟩:_∧_)
  clear hcmp S sA sB
  have c1z:((m:Int) - (a:Int)==1)=false:=by simp;omega
  have c2z:(b:Int) - (m:Int)=1:=by omega
  have C2:Hid (b=m+1):=c2
  clear c2
  go_enter F,Try.ntmps148
  go_wp2
  go_loopg [14,15] (b - a) (fun kx s10 s11 wr=> ∃lo hi:Nat,s10= .int .i64 lo∧s11= .int .i64 hi∧a≤lo∧lo≤hi∧hi≤m∧hi - lo≤kx∧Aside (SWK enc k w0 blk off d wr)∧Hid ((lo=a∨ltOf cf d[m]! d[lo - 1]! =false)∧(hi=m∨ltOf cf d[m]! d[hi]! =true)))
  case atStart=>exact ⟨a,m,rfl,rfl,Nat.le_refl _,by omega,Nat.le_refl _,by omega,S0,(⟨.inl rfl, .inl rfl⟩:_∧_)⟩
  case round=>
    clear S0
    obtain ⟨lo,hi,rfl,rfl,hml,hlh,hhb,hg,S1,I⟩:=hrel
    by_cases hlt:lo<hi
    · have hltz : (lo : Int) < (hi : Int) := by omega
      cases hlv:ltOf cf d[m]! d[(lo+hi) / 2]! with
      | true =>
        have eaht:((m:Int)).toNat=m:=by omega
        have paht:(0:Int)≤(m:Int):=by omega
        have baht:(m:Int)<(d.size:Int):=by omega
        have raht:IntKind.i64.wrap ((m:Int))=(m:Int):=by rw [IntKind.wrap_i64];omega
        have echt:(((lo:Int)+(hi:Int)) / 2).toNat=(lo+hi) / 2:=by omega
        have pcht:(0:Int)≤((lo:Int)+(hi:Int)) / 2:=by omega
        have bcht:((lo:Int)+(hi:Int)) / 2<(d.size:Int):=by omega
        have rcht:IntKind.i64.wrap (((lo:Int)+(hi:Int)) / 2)=((lo:Int)+(hi:Int)) / 2:=by rw [IntKind.wrap_i64];omega
        obtain ⟨xht,hxht⟩: ∃x,x=d[m]!:=⟨_,rfl⟩
        obtain ⟨yht,hyht⟩: ∃x,x=d[(lo+hi) / 2]!:=⟨_,rfl⟩
        have laht:=S1.out.ld R (by omega) P (m) (by omega)
        have lbht:=S1.out.ld R (by omega) P ((lo+hi) / 2) (by omega)
        rw [←hxht] at laht
        rw [←hyht] at lbht
        have hcht:=S1.out.cmp HC.out (by omega) xht yht
        have hvht:cf xht yht<0:=by rw [hxht,hyht];exact of_decide_eq_true hlv
        have hdht:decide (cf xht yht<0)=true:=decide_eq_true hvht
        clear hxht hyht
        go_wp2_with fail
        go_quiet_grown (first|(go_at_fn g;refine Calls.grown_of (hcht _ _)))
        have S2:Aside (SWK enc k w0 blk off d (grow (wr.drewN nq) osq)):=S1.out.grown nq osq
        clear laht lbht hcht S1
        generalize grow (wr.drewN nq) osq=w2 at S2 ⊢
        clear nq osq
        go_wp2
        go_roundg ((lo+hi) / 2 - lo)
        case measure=>omega
        case rel=>
          have I2:Hid ((lo=a∨ltOf cf d[m]! d[lo - 1]! =false)∧(((lo+hi) / 2)=m∨ltOf cf d[m]! d[((lo+hi) / 2)]! =true)):=(⟨I.out.1, .inr hlv⟩:_∧_)
          exact ⟨lo,(lo+hi) / 2,rfl,by rw [show ((lo:Int)+(hi:Int)) / 2=(((lo+hi) / 2:Nat):Int) by omega],by omega,by omega,by omega,Nat.le_refl _,S2,I2⟩
      | false =>
        have eahf:((m:Int)).toNat=m:=by omega
        have pahf:(0:Int)≤(m:Int):=by omega
        have bahf:(m:Int)<(d.size:Int):=by omega
        have rahf:IntKind.i64.wrap ((m:Int))=(m:Int):=by rw [IntKind.wrap_i64];omega
        have echf:(((lo:Int)+(hi:Int)) / 2).toNat=(lo+hi) / 2:=by omega
        have pchf:(0:Int)≤((lo:Int)+(hi:Int)) / 2:=by omega
        have bchf:((lo:Int)+(hi:Int)) / 2<(d.size:Int):=by omega
        have rchf:IntKind.i64.wrap (((lo:Int)+(hi:Int)) / 2)=((lo:Int)+(hi:Int)) / 2:=by rw [IntKind.wrap_i64];omega
        obtain ⟨xhf,hxhf⟩: ∃x,x=d[m]!:=⟨_,rfl⟩
        obtain ⟨yhf,hyhf⟩: ∃x,x=d[(lo+hi) / 2]!:=⟨_,rfl⟩
        have lahf:=S1.out.ld R (by omega) P (m) (by omega)
        have lbhf:=S1.out.ld R (by omega) P ((lo+hi) / 2) (by omega)
        rw [←hxhf] at lahf
        rw [←hyhf] at lbhf
        have hchf:=S1.out.cmp HC.out (by omega) xhf yhf
        have hvhf: ¬cf xhf yhf<0:=by rw [hxhf,hyhf];exact of_decide_eq_false hlv
        have hdhf:decide (cf xhf yhf<0)=false:=decide_eq_false hvhf
        clear hxhf hyhf
        go_wp2_with fail
        go_quiet_grown (first|(go_at_fn g;refine Calls.grown_of (hchf _ _)))
        have S2:Aside (SWK enc k w0 blk off d (grow (wr.drewN nq) osq)):=S1.out.grown nq osq
        clear lahf lbhf hchf S1
        generalize grow (wr.drewN nq) osq=w2 at S2 ⊢
        clear nq osq
        go_wp2
        go_roundg (hi - ((lo+hi) / 2+1))
        case measure=>omega
        case rel=>
          have I2:Hid ((((lo+hi) / 2+1)=a∨ltOf cf d[m]! d[((lo+hi) / 2+1) - 1]! =false)∧(hi=m∨ltOf cf d[m]! d[hi]! =true)):=(⟨.inr hlv,I.out.2⟩:_∧_)
          exact ⟨(lo+hi) / 2+1,hi,by rw [show ((lo:Int)+(hi:Int)) / 2+1=(((lo+hi) / 2+1:Nat):Int) by omega],rfl,by omega,by omega,by omega,Nat.le_refl _,S2,I2⟩
    · obtain rfl : hi = lo := by omega
      have hltz: ¬(hi:Int)<(hi:Int):=by omega
      go_wp2
      go_loopg [17] (b - a) (fun kx s17 wr2=> ∃(q:Nat) (dk:Array α),s17= .int .i64 q∧hi≤q∧q≤m∧q - hi≤kx∧dk.size=d.size∧Aside (SWK enc k w0 blk off dk wr2)∧Hid (RotAt q m (m+1) d dk∧PermIn a b d dk))
      case atStart=>exact ⟨m,d,rfl,by omega,Nat.le_refl _,by omega,rfl,S1,(⟨rot_left _ _ _,permIn_refl _ _ _⟩:_∧_)⟩
      case round=>
        clear S1
        obtain ⟨q,dk,rfl,haq,hqh,hg2,hds,S1,HH⟩:=hrel
        by_cases hq:hi<q
        · obtain ⟨q, rfl⟩ : ∃ p, q = p + 1 := ⟨q - 1, by omega⟩
          have hqz:(hi:Int)<(q:Int)+1:=by omega
          go_wp2_with fail
          have eaq:((q:Int)+1).toNat=q+1:=by omega
          have paq:(0:Int)≤(q:Int)+1:=by omega
          have baq:(q:Int)+1<(d.size:Int):=by omega
          have raq:IntKind.i64.wrap ((q:Int)+1)=(q:Int)+1:=by rw [IntKind.wrap_i64];omega
          have ecq:((q:Int)).toNat=q:=by omega
          have pcq:(0:Int)≤(q:Int):=by omega
          have bcq:(q:Int)<(d.size:Int):=by omega
          have rcq:IntKind.i64.wrap ((q:Int))=(q:Int):=by rw [IntKind.wrap_i64];omega
          have S2:Aside (SWK enc k w0 blk off (swp dk (q+1) (q)) ((wr.drew.setCells blk (off+(q+1)*k) (enc dk[q]!)).setCells blk (off+(q)*k) (enc dk[q+1]!))):=S1.out.swapped R (q+1) (q) (by omega) (by omega)
          have laq:=S1.out.ld1 R (by omega) P (q+1) (by omega)
          have lbq:=S1.out.ld1 R (by omega) P (q) (by omega)
          have saq:=S1.out.st1 R (by omega) P (q+1) (by omega) dk[q]!
          have sbq:=S1.out.st2 R (by omega) P (q+1) (q) (by omega) (by omega) dk[q]! dk[q+1]!
          have naq:(enc dk[q+1]!).length=k:=R.hk _
          have nbq:(enc dk[q]!).length=k:=R.hk _
          generalize enc dk[q+1]! =cIq at S2 laq sbq naq
          generalize enc dk[q]! =cJq at S2 lbq saq sbq nbq
          clear S1
          go_wp2_with fail
          go_big_region_o
          clear laq lbq saq sbq
          generalize (wr.drew.setCells blk (off+(q+1)*k) cJq).setCells blk (off+(q)*k) cIq=w3 at S2 ⊢
          go_wp2
          go_roundg (q - hi)
          case measure=>omega
          case rel=>
            have HH2:Hid (RotAt q m (m+1) d (swp dk (q+1) q)∧PermIn a b d (swp dk (q+1) q)):=(⟨rot_down HH.out.1 (by omega) (by omega),permIn_trans _ _ _ _ _ HH.out.2 (swp_permIn dk a b (q+1) q (by omega) (by omega) (by omega) (by omega) (by omega))⟩:_∧_)
            exact ⟨q,swp dk (q+1) q,by go_num,by omega,by omega,Nat.le_refl _,by rw [size_swp];exact hds,S2,HH2⟩
        · have hqz : ¬ (hi : Int) < (q : Int) := by omega
          go_wp2
          (try simp only [Exit.inBlock,Exit.then]);refine bodyPost_ret (results_none rfl _ _ _) rfl ?_
          refine ⟨rfl,dk,S1.out, ?_,HH.out.2⟩
          have hr:=HH.out.1
          rw [show q=hi by omega] at hr
          rw [C2.out]
          exact ins_right_ hO hr hml hhb SS.out.1 (right_le hO SS.out.1 hhb I.out.1) (right_gt hO SS.out.1 hml I.out.2)
set_option maxHeartbeats 8000000 in
set_option maxRecDepth 1000000 in
theorem symMerge_big {P:Program} {α:Type} [Inhabited α] (FS:P.funcs[176]?=some Try.f176) (FR:P.funcs[169]?=some Try.f169) (F:P.funcs[148]?=some Try.f148) {k:Nat} (L:SortT P k) (enc:α→List Value) (cf:α→α→Int) (g:Nat) (cb:Array Value) (blk off cap:Nat) (d0:Array α) (w0:World)
    (eg: ∀args w,(callFunc g args).run P w= .ok (.enter g args) w) (hcmp:CmpLays P g cb enc k cf blk off d0.size w0) (R:RowK enc k w0 blk off d0) (hO:SWO (ltOf cf)) (hsz:d0.size<2305843009213693952) (N:Nat) (ih:SymN P enc cf k g cb blk off cap d0 w0 N)
    (a m b:Nat) (d:Array α) (w:World) (hN:b - a≤N+1) (c1: ¬m=a+1) (c2: ¬b=m+1) (hs:d0.size=d.size) (S:SWK enc k w0 blk off d w) (ham:a<m) (hmb:m<b) (hb:b≤d.size) (sA:SortedIn (ltOf cf) a m d) (sB:SortedIn (ltOf cf) m b d):SymR P enc cf k g cb blk off cap w0 a m b d w:=by
  unfold SymR
  have mixed:=L.mixed;have t0:=L.t0;have a0:=L.a0;have z0:=L.z0;have v0:=L.v0;have t3:=L.t3;have a3:=L.a3;have z3:=L.z3;have v3:=L.v3;have t4:=L.t4;have a4:=L.a4;have z4:=L.z4;have v4:=L.v4;have t5:=L.t5;have a5:=L.a5;have z5:=L.z5;have v5:=L.v5;have t22:=L.t22;have a22:=L.a22;have z22:=L.z22;have v22:=L.v22;have t25:=L.t25;have a25:=L.a25;have z25:=L.z25;have v25:=L.v25;have aE:=L.aE;have zE:=L.zE
  have u0:=run_underlying L.t0;have u3:=run_underlying L.t3;have u4:=run_underlying L.t4;have u5:=run_underlying L.t5;have u22:=run_underlying L.t22
  have eR: ∀args w,(callFunc 169 args).run P w= .ok (.enter 169 args) w:=enters_of FR (by kernel_rfl) rfl
  have eY: ∀args w,(callFunc 148 args).run P w= .ok (.enter 148 args) w:=enters_of F (by kernel_rfl) rfl
  have HC:Aside _:=hcmp
  have S0:Aside (SWK enc k w0 blk off d w):=S
  have SS:Hid (SortedIn (ltOf cf) a m d∧SortedIn (ltOf cf) m b d):=(⟨sA,sB⟩:_∧_)
  have IH:Hid _:=ih
  clear hcmp S sA sB ih
  have c1z:((m:Int) - (a:Int)==1)=false:=by simp;omega
  have c2z:((b:Int) - (m:Int)==1)=false:=by simp;omega
  obtain ⟨mid,hmid⟩: ∃mid:Nat,2*mid≤a+b∧a+b≤2*mid+1:=⟨(a+b) / 2,by omega⟩
  have hmz:((a:Int)+(b:Int)) / 2=(mid:Int):=by omega
  obtain ⟨pz,hpz⟩: ∃p:Nat,p+1≤mid+m∧mid+m≤p+1:=⟨mid+m - 1,by omega⟩
  have hpq:(mid:Int)+(m:Int) - 1=(pz:Int):=by omega
  go_enter F,Try.ntmps148
  have HMZ:Hid _:=hmz
  clear hmz
  go_upto_region 25 with (fail)
  rw [HMZ.out]
  go_upto_if 140 with (fail)
  go_cut [20,21] (fun v20 v21 wc=> ∃lo hi:Nat,v20= .int .i64 lo∧v21= .int .i64 hi∧a≤lo∧lo≤hi∧hi≤m∧hi≤mid∧mid+m - lo≤b∧m≤mid+m - hi∧Aside (SWK enc k w0 blk off d wc)∧Hid (((lo=a∨mid+m - lo=b)∨ltOf cf d[mid+m - lo]! d[lo - 1]! =false)∧((hi=m∨mid+m - hi=m)∨ltOf cf d[mid+m - hi - 1]! d[hi]! =true)))
  case first=>
    as_aux_lemma=>
      by_cases hgt:mid<m
      · have hgz : (mid : Int) < (m : Int) := by omega
        go_wp2
        go_meet
        case rel=>exact ⟨mid+m - b,mid,by rw [show ((mid+m - b:Nat):Int)=(mid:Int)+(m:Int) - (b:Int) by omega],rfl,by omega,by omega,by omega,Nat.le_refl _,by omega,by omega,S0,(⟨.inl (.inr (by omega)), .inl (.inr (by omega))⟩:_∧_)⟩
      · have hgz : ¬ (mid : Int) < (m : Int) := by omega
        go_wp2
        go_meet
        case rel=>exact ⟨a,m,rfl,rfl,by omega,by omega,Nat.le_refl _,by omega,by omega,by omega,S0,(⟨.inl (.inl rfl), .inl (.inl rfl)⟩:_∧_)⟩
  case rest=>
    clear S0
    obtain ⟨lo0,hi0,rfl,rfl,b1,b2,b3,b4,b5,b6,S0,I0⟩:=hcut
    go_wp2
    go_loopg [20,21] (b - a) (fun kx s20 s21 wr=> ∃lo hi:Nat,s20= .int .i64 lo∧s21= .int .i64 hi∧lo0≤lo∧lo≤hi∧hi≤hi0∧hi - lo≤kx∧Aside (SWK enc k w0 blk off d wr)∧Hid (((lo=a∨mid+m - lo=b)∨ltOf cf d[mid+m - lo]! d[lo - 1]! =false)∧((hi=m∨mid+m - hi=m)∨ltOf cf d[mid+m - hi - 1]! d[hi]! =true)))
    case atStart=>exact ⟨lo0,hi0,rfl,rfl,Nat.le_refl _,by omega,Nat.le_refl _,by omega,S0,I0⟩
    case round=>
      clear S0 I0
      obtain ⟨lo,hi,rfl,rfl,hml,hlh,hhb,hg,S1,I⟩:=hrel
      by_cases hlt:lo<hi
      · have hltz : (lo : Int) < (hi : Int) := by omega
        obtain ⟨xq,hxq⟩: ∃x:Nat,x+(lo+hi) / 2≤pz∧pz≤x+(lo+hi) / 2:=⟨pz - (lo+hi) / 2,by omega⟩
        have hxd:(pz:Int) - ((lo:Int)+(hi:Int)) / 2=(xq:Int):=by omega
        cases hlv:ltOf cf d[xq]! d[(lo+hi) / 2]! with
        | true =>
          have eaht:((xq:Int)).toNat=xq:=by omega
          have paht:(0:Int)≤(xq:Int):=by omega
          have baht:(xq:Int)<(d.size:Int):=by omega
          have raht:IntKind.i64.wrap ((xq:Int))=(xq:Int):=by rw [IntKind.wrap_i64];omega
          have echt:(((lo:Int)+(hi:Int)) / 2).toNat=(lo+hi) / 2:=by omega
          have pcht:(0:Int)≤((lo:Int)+(hi:Int)) / 2:=by omega
          have bcht:((lo:Int)+(hi:Int)) / 2<(d.size:Int):=by omega
          have rcht:IntKind.i64.wrap (((lo:Int)+(hi:Int)) / 2)=((lo:Int)+(hi:Int)) / 2:=by rw [IntKind.wrap_i64];omega
          obtain ⟨xht,hxht⟩: ∃x,x=d[xq]!:=⟨_,rfl⟩
          obtain ⟨yht,hyht⟩: ∃x,x=d[(lo+hi) / 2]!:=⟨_,rfl⟩
          have laht:=S1.out.ld R (by omega) P (xq) (by omega)
          have lbht:=S1.out.ld R (by omega) P ((lo+hi) / 2) (by omega)
          rw [←hxht] at laht
          rw [←hyht] at lbht
          have hcht:=S1.out.cmp HC.out (by omega) xht yht
          have hvht:cf xht yht<0:=by rw [hxht,hyht];exact of_decide_eq_true hlv
          have hdht:decide (cf xht yht<0)=true:=decide_eq_true hvht
          clear hxht hyht
          go_wp2_with fail
          go_quiet_grown (first|(go_at_fn g;refine Calls.grown_of (hcht _ _)))
          have S2:Aside (SWK enc k w0 blk off d (grow (wr.drewN nq) osq)):=S1.out.grown nq osq
          clear laht lbht hcht S1
          generalize grow (wr.drewN nq) osq=w2 at S2 ⊢
          clear nq osq
          go_wp2
          go_roundg ((lo+hi) / 2 - lo)
          case measure=>omega
          case rel=>
            have I2:Hid (((lo=a∨mid+m - lo=b)∨ltOf cf d[mid+m - lo]! d[lo - 1]! =false)∧((((lo+hi) / 2)=m∨mid+m - ((lo+hi) / 2)=m)∨ltOf cf d[mid+m - ((lo+hi) / 2) - 1]! d[((lo+hi) / 2)]! =true)):=(⟨I.out.1, .inr (by rw [show mid+m - ((lo+hi) / 2) - 1=xq by omega];exact hlv)⟩:_∧_)
            exact ⟨lo,(lo+hi) / 2,rfl,by rw [show ((lo:Int)+(hi:Int)) / 2=(((lo+hi) / 2:Nat):Int) by omega],by omega,by omega,by omega,Nat.le_refl _,S2,I2⟩
        | false =>
          have eahf:((xq:Int)).toNat=xq:=by omega
          have pahf:(0:Int)≤(xq:Int):=by omega
          have bahf:(xq:Int)<(d.size:Int):=by omega
          have rahf:IntKind.i64.wrap ((xq:Int))=(xq:Int):=by rw [IntKind.wrap_i64];omega
          have echf:(((lo:Int)+(hi:Int)) / 2).toNat=(lo+hi) / 2:=by omega
          have pchf:(0:Int)≤((lo:Int)+(hi:Int)) / 2:=by omega
          have bchf:((lo:Int)+(hi:Int)) / 2<(d.size:Int):=by omega
          have rchf:IntKind.i64.wrap (((lo:Int)+(hi:Int)) / 2)=((lo:Int)+(hi:Int)) / 2:=by rw [IntKind.wrap_i64];omega
          obtain ⟨xhf,hxhf⟩: ∃x,x=d[xq]!:=⟨_,rfl⟩
          obtain ⟨yhf,hyhf⟩: ∃x,x=d[(lo+hi) / 2]!:=⟨_,rfl⟩
          have lahf:=S1.out.ld R (by omega) P (xq) (by omega)
          have lbhf:=S1.out.ld R (by omega) P ((lo+hi) / 2) (by omega)
          rw [←hxhf] at lahf
          rw [←hyhf] at lbhf
          have hchf:=S1.out.cmp HC.out (by omega) xhf yhf
          have hvhf: ¬cf xhf yhf<0:=by rw [hxhf,hyhf];exact of_decide_eq_false hlv
          have hdhf:decide (cf xhf yhf<0)=false:=decide_eq_false hvhf
          clear hxhf hyhf
          go_wp2_with fail
          go_quiet_grown (first|(go_at_fn g;refine Calls.grown_of (hchf _ _)))
          have S2:Aside (SWK enc k w0 blk off d (grow (wr.drewN nq) osq)):=S1.out.grown nq osq
          clear lahf lbhf hchf S1
          generalize grow (wr.drewN nq) osq=w2 at S2 ⊢
          clear nq osq
          go_wp2
          go_roundg (hi - ((lo+hi) / 2+1))
          case measure=>omega
          case rel=>
            have I2:Hid (((((lo+hi) / 2+1)=a∨mid+m - ((lo+hi) / 2+1)=b)∨ltOf cf d[mid+m - ((lo+hi) / 2+1)]! d[((lo+hi) / 2+1) - 1]! =false)∧((hi=m∨mid+m - hi=m)∨ltOf cf d[mid+m - hi - 1]! d[hi]! =true)):=(⟨.inr (by rw [show mid+m - ((lo+hi) / 2+1)=xq by omega];exact hlv),I.out.2⟩:_∧_)
            exact ⟨(lo+hi) / 2+1,hi,by rw [show ((lo:Int)+(hi:Int)) / 2+1=(((lo+hi) / 2+1:Nat):Int) by omega],rfl,by omega,by omega,by omega,Nat.le_refl _,S2,I2⟩
      · obtain rfl : hi = lo := by omega
        have hltz: ¬(hi:Int)<(hi:Int):=by omega
        obtain ⟨e,he⟩: ∃e:Nat,e+hi≤mid+m∧mid+m≤e+hi:=⟨mid+m - hi,by omega⟩
        have hez:(mid:Int)+(m:Int) - (hi:Int)=(e:Int):=by omega
        have IE:Hid (((hi=a∨e=b)∨ltOf cf d[e]! d[hi - 1]! =false)∧((hi=m∨e=m)∨ltOf cf d[e - 1]! d[hi]! =true)):=by rw [show e=mid+m - hi by omega];exact I
        clear I
        go_upto_region 39 with (fail)
        go_cut [185] (fun v wc=> ∃q:Bool,v= .bool q∧Hid (q=true↔(hi<m∧m<e))∧Aside (SWK enc k w0 blk off d wc))
        case first=>
          as_aux_lemma=>
            by_cases hr1:hi<m
            · have hr1z : (hi : Int) < (m : Int) := by omega
              by_cases hr2:m<e
              · have hr2z : (m : Int) < (e : Int) := by omega
                go_wp2
                go_meet
                case rel=>exact ⟨true,rfl,(show Hid _ from (⟨fun _=>⟨hr1,hr2⟩,fun _=>rfl⟩:true=true↔(hi<m∧m<e))),S1⟩
              · have hr2z : ¬ (m : Int) < (e : Int) := by omega
                go_wp2
                go_meet
                case rel=>exact ⟨false,rfl,(show Hid _ from (⟨fun h=>absurd h (by simp),fun h=>absurd h.2 hr2⟩:false=true↔(hi<m∧m<e))),S1⟩
            · have hr1z : ¬ (hi : Int) < (m : Int) := by omega
              go_wp2
              go_meet
              case rel=>exact ⟨false,rfl,(show Hid _ from (⟨fun h=>absurd h (by simp),fun h=>absurd h.1 hr1⟩:false=true↔(hi<m∧m<e))),S1⟩
        case rest=>
        clear S1
        obtain ⟨q,rfl,Q,S1⟩:=hcut
        go_upto_if 185 with (fail)
        go_cut [] (fun wc=> ∃d1:Array α,Aside (SWK enc k w0 blk off d1 wc)∧Hid (Turned_ (ltOf cf) a hi mid e b d d1))
        case first=>
          as_aux_lemma=>
            cases q with
            | true =>
              have hr:=Q.out.1 rfl
              have hcall:=rotate_w FS FR L enc g cb blk off cap hi m e d0 d w0 wc R hs S1.out hr.1 hr.2 (by omega) (by omega)
              clear S1 hr
              go_wp2_with (go_at_fn 169;refine hcall.mono ?_;rintro e_ w1 ⟨rfl,d1,S2,X,Y⟩;have S3:Aside (SWK enc k w0 blk off d1 w1):=S2;have T:Hid (Turned_ (ltOf cf) a hi mid e b d d1):=turned_of hO (permIn_mono d d1 hi e a b (by omega) (by omega) (by omega) Y) X (by omega) (by omega) (by omega) (by omega) (by omega) SS.out.1 SS.out.2 IE.out.1 IE.out.2;clear X Y S2)
              go_meet
              case rel=>exact ⟨d1,S3,T⟩
            | false =>
              have hr: ¬(hi<m∧m<e):=fun h=>by have:=Q.out.2 h;simp at this
              have T:Hid (Turned_ (ltOf cf) a hi mid e b d d):=turned_of hO (permIn_refl _ _ _) (by
                by_cases q:hi=m
                · rw [q];exact rot_left _ _ _
                · rw [show e=m by omega];exact rot_right _ _ _) (by omega) (by omega) (by omega) (by omega) (by omega) SS.out.1 SS.out.2 IE.out.1 IE.out.2
              clear hr
              go_wp2
              go_meet
              case rel=>exact ⟨d,S1,T⟩
        case rest=>
          clear S1 IE
          obtain ⟨d1,S1,T⟩:=hcut
          clear Q
          have hd1:d1.size=d.size:=T.out.perm.1
          go_upto_region 41 with (fail)
          go_cut [199] (fun v wc=> ∃q:Bool,v= .bool q∧Hid (q=true↔(a<hi∧hi<mid))∧Aside (SWK enc k w0 blk off d1 wc))
          case first=>
            as_aux_lemma=>
              by_cases hr1:a<hi
              · have hr1z : (a : Int) < (hi : Int) := by omega
                by_cases hr2:hi<mid
                · have hr2z : (hi : Int) < (mid : Int) := by omega
                  go_wp2
                  go_meet
                  case rel=>exact ⟨true,rfl,(show Hid _ from (⟨fun _=>⟨hr1,hr2⟩,fun _=>rfl⟩:true=true↔(a<hi∧hi<mid))),S1⟩
                · have hr2z : ¬ (hi : Int) < (mid : Int) := by omega
                  go_wp2
                  go_meet
                  case rel=>exact ⟨false,rfl,(show Hid _ from (⟨fun h=>absurd h (by simp),fun h=>absurd h.2 hr2⟩:false=true↔(a<hi∧hi<mid))),S1⟩
              · have hr1z : ¬ (a : Int) < (hi : Int) := by omega
                go_wp2
                go_meet
                case rel=>exact ⟨false,rfl,(show Hid _ from (⟨fun h=>absurd h (by simp),fun h=>absurd h.1 hr1⟩:false=true↔(a<hi∧hi<mid))),S1⟩
          case rest=>
          clear S1
          obtain ⟨q,rfl,Q,S1⟩:=hcut
          go_upto_if 199 with (fail)
          go_cut [] (fun wc=> ∃d2:Array α,Aside (SWK enc k w0 blk off d2 wc)∧Hid (SortedIn (ltOf cf) a mid d2∧PermIn a mid d1 d2))
          case first=>
            as_aux_lemma=>
              cases q with
              | true =>
                have hr:=Q.out.1 rfl
                have hcall:SymR P enc cf k g cb blk off cap w0 a hi mid d1 wc:=IH.out a hi mid d1 wc (by omega) (by omega) S1.out hr.1 hr.2 (by omega) T.out.s1 T.out.s2
                unfold SymR at hcall
                rw [hd1] at hcall
                clear S1 hr
                go_wp2_with (go_at_fn 148;refine hcall.mono ?_;rintro e_ w1 ⟨rfl,d2,S2,X,Y⟩;have S3:Aside (SWK enc k w0 blk off d2 w1):=S2;have T2:Hid (SortedIn (ltOf cf) a mid d2∧PermIn a mid d1 d2):=(⟨X,Y⟩:_∧_);clear X Y S2)
                go_meet
                case rel=>exact ⟨d2,S3,T2⟩
              | false =>
                have hr: ¬(a<hi∧hi<mid):=fun h=>by have:=Q.out.2 h;simp at this
                have T2:Hid (SortedIn (ltOf cf) a mid d1∧PermIn a mid d1 d1):=(⟨sorted_whole T.out.s1 T.out.s2 hr,permIn_refl _ _ _⟩:_∧_)
                clear hr
                go_wp2
                go_meet
                case rel=>exact ⟨d1,S1,T2⟩
          case rest=>
            clear S1 Q
            obtain ⟨d2,S1,T2⟩:=hcut
            have hd2:d2.size=d.size:=by rw [T2.out.2.1];exact hd1
            have s3:SortedIn (ltOf cf) mid e d2:=sorted_congr T.out.s3 (fun q h1 _=>T2.out.2.2.1 q (.inr h1))
            have s4:SortedIn (ltOf cf) e b d2:=sorted_congr T.out.s4 (fun q h1 _=>T2.out.2.2.1 q (.inr (by omega)))
            have S34:Hid (SortedIn (ltOf cf) mid e d2∧SortedIn (ltOf cf) e b d2):=(⟨s3,s4⟩:_∧_)
            clear s3 s4
            have fin: ∀d3,SortedIn (ltOf cf) mid b d3→PermIn mid b d2 d3→SortedIn (ltOf cf) a b d3∧PermIn a b d d3:=fun d3 q1 q2=>by
              obtain ⟨z1,z2⟩:=sym_join (by omega) (by omega) (by omega) T.out.x T2.out.2 T2.out.1 q2 q1
              exact ⟨z1,permIn_trans _ _ _ _ _ T.out.perm z2⟩
            have FIN:Hid _:=fin
            clear fin
            by_cases hr:mid<e∧e<b
            · have hr1 : (mid : Int) < (e : Int) := by omega
              have hr2:(e:Int)<(b:Int):=by omega
              have hcall:SymR P enc cf k g cb blk off cap w0 mid e b d2 wc:=IH.out mid e b d2 wc (by omega) (by omega) S1.out hr.1 hr.2 (by omega) S34.out.1 S34.out.2
              unfold SymR at hcall
              rw [hd2] at hcall
              clear S1
              go_wp2_with (go_at_fn 148;refine hcall.mono ?_;rintro e_ w1 ⟨rfl,d3,S2,X,Y⟩;have S3:Aside (SWK enc k w0 blk off d3 w1):=S2;have T3:Hid (SortedIn (ltOf cf) mid b d3∧PermIn mid b d2 d3):=(⟨X,Y⟩:_∧_);clear X Y S2)
              go_end0
              exact ⟨rfl,d3,S3.out,FIN.out d3 T3.out.1 T3.out.2⟩
            · have T3 : Hid (SortedIn (ltOf cf) mid b d2) := sorted_whole S34.out.1 S34.out.2 hr
              by_cases hr1:mid<e
              · have hr1z : (mid : Int) < (e : Int) := by omega
                have hr2z: ¬(e:Int)<(b:Int):=by omega
                go_wp2
                go_end0
                exact ⟨rfl,d2,S1.out,FIN.out d2 T3.out (permIn_refl _ _ _)⟩
              · have hr1z : ¬ (mid : Int) < (e : Int) := by omega
                go_wp2
                go_end0
                exact ⟨rfl,d2,S1.out,FIN.out d2 T3.out (permIn_refl _ _ _)⟩
theorem symMerge_w {P:Program} {α:Type} [Inhabited α] (FS:P.funcs[176]?=some Try.f176) (FR:P.funcs[169]?=some Try.f169) (F:P.funcs[148]?=some Try.f148) {k:Nat} (L:SortT P k) (enc:α→List Value) (cf:α→α→Int) (g:Nat) (cb:Array Value) (blk off cap:Nat) (d0:Array α) (w0:World)
    (eg: ∀args w,(callFunc g args).run P w= .ok (.enter g args) w) (hcmp:CmpLays P g cb enc k cf blk off d0.size w0) (R:RowK enc k w0 blk off d0) (hO:SWO (ltOf cf)) (hsz:d0.size<2305843009213693952): ∀N,SymN P enc cf k g cb blk off cap d0 w0 N
  |0=>fun a m b d w h1 _ _ h2 h3=>by omega
  | N + 1 => fun a m b d w hN hs S ham hmb hb sA sB => by
    by_cases c1:m=a+1
    · exact symMerge_one FS FR F L enc cf g cb blk off cap d0 w0 eg hcmp R hO hsz a m b d w c1 hs S ham hmb hb sA sB
    · by_cases c2 : b = m + 1
      · exact symMerge_last FS FR F L enc cf g cb blk off cap d0 w0 eg hcmp R hO hsz a m b d w c1 c2 hs S ham hmb hb sA sB
      · exact symMerge_big FS FR F L enc cf g cb blk off cap d0 w0 eg hcmp R hO hsz N (symMerge_w FS FR F L enc cf g cb blk off cap d0 w0 eg hcmp R hO hsz N) a m b d w hN c1 c2 hs S ham hmb hb sA sB
def InsN {α:Type} [Inhabited α] (P:Program) (enc:α→List Value) (cf:α→α→Int) (k g:Nat) (cb:Array Value) (blk off cap:Nat) (d0:Array α) (w0:World):Prop:=
  ∀ (a b : Nat) (d : Array α) (w : World), d0.size = d.size → SWK enc k w0 blk off d w → a ≤ b → b ≤ d.size →
    Calls P 147 #[.slice (some ⟨blk,off,none⟩) d.size cap, .int .i64 a, .int .i64 b, .func (.func g) #[] cb] w fun e w'=>e= .returned (.tuple #[])∧ ∃d',SWK enc k w0 blk off d' w'∧SortedIn (ltOf cf) a b d'∧PermIn a b d d'
set_option maxHeartbeats 8000000 in
set_option maxRecDepth 1000000 in
theorem stable_w {P:Program} {α:Type} [Inhabited α] (FI:P.funcs[147]?=some Try.f147) (FY:P.funcs[148]?=some Try.f148) (F:P.funcs[116]?=some Try.f116) {k:Nat} (L:SortT P k) (enc:α→List Value) (cf:α→α→Int) (g:Nat) (cb:Array Value) (blk off cap:Nat) (d0:Array α) (w0:World)
    (HI:InsN P enc cf k g cb blk off cap d0 w0) (HY: ∀N,SymN P enc cf k g cb blk off cap d0 w0 N) (hsz:d0.size<576460752303423488) (d:Array α) (w:World) (hs:d0.size=d.size) (S:SWK enc k w0 blk off d w):
    Calls P 116 #[.slice (some ⟨blk,off,none⟩) d.size cap, .int .i64 d.size, .func (.func g) #[] cb] w fun e w'=>e= .returned (.tuple #[])∧ ∃d',SWK enc k w0 blk off d' w'∧SortedIn (ltOf cf) 0 d.size d'∧PermIn 0 d.size d d':=by
  have mixed:=L.mixed;have t0:=L.t0;have a0:=L.a0;have z0:=L.z0;have v0:=L.v0;have t3:=L.t3;have a3:=L.a3;have z3:=L.z3;have v3:=L.v3;have t4:=L.t4;have a4:=L.a4;have z4:=L.z4;have v4:=L.v4;have t5:=L.t5;have a5:=L.a5;have z5:=L.z5;have v5:=L.v5;have t22:=L.t22;have a22:=L.a22;have z22:=L.z22;have v22:=L.v22;have t25:=L.t25;have a25:=L.a25;have z25:=L.z25;have v25:=L.v25;have aE:=L.aE;have zE:=L.zE
  have u0:=run_underlying L.t0;have u3:=run_underlying L.t3;have u4:=run_underlying L.t4;have u5:=run_underlying L.t5;have u22:=run_underlying L.t22
  have eI: ∀args w,(callFunc 147 args).run P w= .ok (.enter 147 args) w:=enters_of FI (by kernel_rfl) rfl
  have eY: ∀args w,(callFunc 148 args).run P w= .ok (.enter 148 args) w:=enters_of FY (by kernel_rfl) rfl
  have S0:Aside (SWK enc k w0 blk off d w):=S
  have HII:Hid _:=HI
  have HYY:Hid _:=HY
  clear S HI HY
  obtain ⟨n,hn⟩: ∃n,n=d.size:=⟨_,rfl⟩
  rw [←hn]
  have HN:Hid (n=d.size):=hn
  have hn1:n≤d.size∧d.size≤n:=by omega
  clear hn
  go_enter F,Try.ntmps116
  go_wp2
  go_loopg [7,8] (n+1) (fun kx s7 s8 wr=> ∃(t a:Nat) (dk:Array α),s7= .int .i64 a∧s8= .int .i64 ((a:Int)+20)∧a≤n∧n - a≤kx∧dk.size=n∧Aside (SWK enc k w0 blk off dk wr)∧Hid (a=t*20∧Upto (ltOf cf) 20 n t dk∧PermIn 0 n d dk))
  case atStart=>exact ⟨0,0,d,rfl,rfl,by omega,by omega,HN.out.symm,S0,(⟨by omega,fun c hc=>by omega,permIn_refl _ _ _⟩:_∧_∧_)⟩
  case round=>
    clear S0
    obtain ⟨t,a,dk,rfl,rfl,han,hkx,hds,S1,HH⟩:=hrel
    have HD:Hid (dk.size=n):=hds
    have hd1:dk.size≤n∧n≤dk.size:=by omega
    clear hds
    by_cases hlt:a+20≤n
    · have hltz : (a : Int) + 20 ≤ (n : Int) := by omega
      have hcall:=HII.out a (a+20) dk wr (by omega) S1.out (by omega) (by omega)
      rw [show ((a+20:Nat):Int)=(a:Int)+20 by omega,HD.out] at hcall
      clear S1
      go_wp2_with (go_at_fn 147;refine hcall.mono ?_;rintro e_ w1 ⟨rfl,d1,S2,X,Y⟩;have S3:Aside (SWK enc k w0 blk off d1 w1):=S2;have T:Hid (SortedIn (ltOf cf) a (a+20) d1∧PermIn a (a+20) dk d1):=(⟨X,Y⟩:_∧_);clear X Y S2)
      go_roundg (n - (a+20))
      case measure=>omega
      case rel=>
        have HH2:Hid (a+20=(t+1)*20∧Upto (ltOf cf) 20 n (t+1) d1∧PermIn 0 n d d1):=by
          obtain ⟨q1,q2,q3⟩:=HH.out
          have e1:t*20=a:=q1.symm
          have e2:min (t*20+20) n=a+20:=by omega
          show _∧_∧_
          exact ⟨by omega,upto_step q2 (by rw [e1,←e1,e2,e1];exact T.out.2) (by rw [e2,e1];exact T.out.1),part_perm q3 T.out.2 hlt (by omega)⟩
        exact ⟨t+1,a+20,d1,by rw [show ((a+20:Nat):Int)=(a:Int)+20 by omega],by rw [show ((a+20:Nat):Int)=(a:Int)+20 by omega],hlt,Nat.le_refl _,by rw [T.out.2.1];exact HD.out,S3,HH2⟩
    · have hltz : ¬ (a : Int) + 20 ≤ (n : Int) := by omega
      have hcall:=HII.out a n dk wr (by omega) S1.out (by omega) (by omega)
      rw [HD.out] at hcall
      clear S1
      go_wp2_with (go_at_fn 147;refine hcall.mono ?_;rintro e_ w1 ⟨rfl,d1,S2,X,Y⟩;have S3:Aside (SWK enc k w0 blk off d1 w1):=S2;have T:Hid (SortedIn (ltOf cf) a n d1∧PermIn a n dk d1):=(⟨X,Y⟩:_∧_);clear X Y S2)
      have HB:Hid (Blocks (ltOf cf) 20 n d1∧PermIn 0 n d d1∧d1.size=n):=by
        obtain ⟨q1,q2,q3⟩:=HH.out
        have e1:t*20=a:=q1.symm
        have e2:min (t*20+20) n=n:=by omega
        show _∧_∧_
        exact ⟨upto_all (upto_step q2 (by rw [e2,e1];exact T.out.2) (by rw [e2,e1];exact T.out.1)) (by omega),part_perm q3 T.out.2 (Nat.le_refl _) (by omega),by rw [T.out.2.1];exact HD.out⟩
      clear HH T HD hd1 hlt hltz
      go_loopg [6] (n+1) (fun kx s6 wr2=> ∃(bs:Nat) (dk:Array α),s6= .int .i64 bs∧20≤bs∧bs≤2*n+20∧n - bs≤kx∧Aside (SWK enc k w0 blk off dk wr2)∧Hid (Blocks (ltOf cf) bs n dk∧PermIn 0 n d dk∧dk.size=n))
      case atStart=>exact ⟨20,d1,rfl,by omega,by omega,by omega,S3,HB⟩
      case round=>
        clear S3 HB
        obtain ⟨bs,dk,rfl,hbs,hbs2,hkx2,S1,HB⟩:=hrel
        by_cases hlt:bs<n
        · have hltz : (bs : Int) < (n : Int) := by omega
          go_wp2
          go_loopg [7,8] (n+1) (fun kx s7 s8 wr3=> ∃(t a:Nat) (dk:Array α),s7= .int .i64 a∧s8= .int .i64 ((a:Int)+2*(bs:Int))∧a≤n∧n - a≤kx∧Aside (SWK enc k w0 blk off dk wr3)∧Hid (a=t*(2*bs)∧Mixed (ltOf cf) bs n t dk∧PermIn 0 n d dk∧dk.size=n))
          case atStart=>exact ⟨0,0,dk,rfl,by simp,by omega,by omega,S1,(⟨by omega,mixed_zero HB.out.1,HB.out.2.1,HB.out.2.2⟩:_∧_∧_∧_)⟩
          case round=>
            clear S1 HB
            obtain ⟨t,a,dk,rfl,rfl,han,hkx3,S1,HH⟩:=hrel
            have hd1:dk.size≤n∧n≤dk.size:=by have:=HH.out.2.2.2;omega
            by_cases hle:a+2*bs≤n
            · have hlez : (a : Int) + 2 * (bs : Int) ≤ (n : Int) := by omega
              have hm:SortedIn (ltOf cf) a (a+bs) dk∧SortedIn (ltOf cf) (a+bs) (a+2*bs) dk:=by
                obtain ⟨q1,q2,_,_⟩:=HH.out
                have q:=mixed_at q2
                rw [←q1,Nat.min_eq_left (by omega),Nat.min_eq_left (by omega)] at q
                exact q
              have hcall:SymR P enc cf k g cb blk off cap w0 a (a+bs) (a+2*bs) dk wr:=HYY.out _ a (a+bs) (a+2*bs) dk wr (Nat.le_refl _) (by omega) S1.out (by omega) (by omega) (by omega) hm.1 hm.2
              unfold SymR at hcall
              rw [show ((a+bs:Nat):Int)=(a:Int)+(bs:Int) by omega,show ((a+2*bs:Nat):Int)=(a:Int)+2*(bs:Int) by omega,HH.out.2.2.2] at hcall
              clear S1 hm
              go_wp2_with (go_at_fn 148;refine hcall.mono ?_;rintro e_ w1 ⟨rfl,d1,S2,X,Y⟩;have S3:Aside (SWK enc k w0 blk off d1 w1):=S2;have T:Hid (SortedIn (ltOf cf) a (a+2*bs) d1∧PermIn a (a+2*bs) dk d1):=(⟨X,Y⟩:_∧_);clear X Y S2)
              go_roundg (n - (a+2*bs))
              case measure=>omega
              case rel=>
                have HH2:Hid (a+2*bs=(t+1)*(2*bs)∧Mixed (ltOf cf) bs n (t+1) d1∧PermIn 0 n d d1∧d1.size=n):=by
                  obtain ⟨q1,q2,q3,q4⟩:=HH.out
                  have e2:min (t*(2*bs)+2*bs) n=t*(2*bs)+2*bs:=by omega
                  have T1:=T.out
                  rw [q1] at T1
                  show _∧_∧_∧_
                  exact ⟨by rw [Nat.add_mul,Nat.one_mul];omega,mixed_step q2 (by rw [e2];exact T1.2) (by rw [e2];exact T1.1),part_perm q3 T.out.2 hle (by omega),by rw [T.out.2.1];exact q4⟩
                exact ⟨t+1,a+2*bs,d1,by rw [show ((a+2*bs:Nat):Int)=(a:Int)+2*(bs:Int) by omega],by rw [show ((a+2*bs:Nat):Int)=(a:Int)+2*(bs:Int) by omega],hle,Nat.le_refl _,S3,HH2⟩
            · have hlez : ¬ (a : Int) + 2 * (bs : Int) ≤ (n : Int) := by omega
              by_cases hlm:a+bs<n
              · have hlmz : (a : Int) + (bs : Int) < (n : Int) := by omega
                have hm:SortedIn (ltOf cf) a (a+bs) dk∧SortedIn (ltOf cf) (a+bs) n dk:=by
                  obtain ⟨q1,q2,_,_⟩:=HH.out
                  have q:=mixed_at q2
                  rw [←q1,Nat.min_eq_left (by omega),Nat.min_eq_right (by omega)] at q
                  exact q
                have hcall:SymR P enc cf k g cb blk off cap w0 a (a+bs) n dk wr:=HYY.out _ a (a+bs) n dk wr (Nat.le_refl _) (by omega) S1.out (by omega) (by omega) (by omega) hm.1 hm.2
                unfold SymR at hcall
                rw [show ((a+bs:Nat):Int)=(a:Int)+(bs:Int) by omega,HH.out.2.2.2] at hcall
                clear S1 hm
                go_wp2_with (go_at_fn 148;refine hcall.mono ?_;rintro e_ w1 ⟨rfl,d1,S2,X,Y⟩;have S3:Aside (SWK enc k w0 blk off d1 w1):=S2;have T:Hid (SortedIn (ltOf cf) a n d1∧PermIn a n dk d1):=(⟨X,Y⟩:_∧_);clear X Y S2)
                go_roundg (n - 2*bs)
                case measure=>omega
                case rel=>
                  have HB2:Hid (Blocks (ltOf cf) (2*bs) n d1∧PermIn 0 n d d1∧d1.size=n):=by
                    obtain ⟨q1,q2,q3,q4⟩:=HH.out
                    have e2:min (t*(2*bs)+2*bs) n=n:=by omega
                    have T1:=T.out
                    rw [q1] at T1
                    show _∧_∧_
                    exact ⟨mixed_last (mixed_step q2 (by rw [e2];exact T1.2) (by rw [e2];exact T1.1)) (by omega),part_perm q3 T.out.2 (Nat.le_refl _) (by omega),by rw [T.out.2.1];exact q4⟩
                  exact ⟨2*bs,d1,by rw [show ((2*bs:Nat):Int)=(bs:Int)*2 by omega],by omega,by omega,Nat.le_refl _,S3,HB2⟩
              · have hlmz : ¬ (a : Int) + (bs : Int) < (n : Int) := by omega
                go_wp2
                go_roundg (n - 2*bs)
                case measure=>omega
                case rel=>
                  have HB2:Hid (Blocks (ltOf cf) (2*bs) n dk∧PermIn 0 n d dk∧dk.size=n):=(⟨mixed_end HH.out.2.1 (by have:=HH.out.1;omega),HH.out.2.2.1,HH.out.2.2.2⟩:_∧_∧_)
                  exact ⟨2*bs,dk,by rw [show ((2*bs:Nat):Int)=(bs:Int)*2 by omega],by omega,by omega,Nat.le_refl _,S1,HB2⟩
        · have hltz : ¬ (bs : Int) < (n : Int) := by omega
          go_wp2
          go_end0
          exact ⟨rfl,dk,S1.out,blocks_all HB.out.1 (by omega),HB.out.2.1⟩
end Go.Proofs.Ytahidkjncljkaaa.Print

namespace Go.Proofs.Ytahidkjncljkaaa.Print
open Go.RowKit Go.Proofs.YtahidkjncljkaaaW.PrintWords Go.Proofs.YtahidkjncljkaaaW.PrintLast Go.Proofs.YtahidkjncljkaaaW.PrintMore
def cmpI (x y:Int):Int:=if x<y then -1 else if y<x then 1 else 0
def cmpS (x y:ByteArray):Int:=if lt x y=true then -1 else if lt y x=true then 1 else 0
set_option maxRecDepth 100000 in
theorem isNaNI_calls (x:Int) (w:World):Calls Try.prog 117 #[.int .i64 x] w fun e w'=>e= .returned (.bool false)∧w'=w:=by
 go_enter Try.func117,Try.ntmps117
 go_wp2
 go_ret
 exact ⟨by simp,rfl⟩
set_option maxRecDepth 100000 in
theorem isNaNS_calls (x:ByteArray) (w:World):Calls Try.prog 118 #[.string x] w fun e w'=>e= .returned (.bool false)∧w'=w:=by
 go_enter Try.func118,Try.ntmps118
 go_wp2
 go_ret
 exact ⟨by simp,rfl⟩
set_option maxHeartbeats 1000000 in
set_option maxRecDepth 100000 in
theorem cmpI_calls (x y:Int) (w:World):Calls Try.prog 81 #[.int .i64 x, .int .i64 y] w fun e w'=>e= .returned (.int .i64 (cmpI x y))∧w'=w:=by
  by_cases h1:x<y
  · go_enter Try.func81, Try.ntmps81
    go_wp2_with (go_at_call 117;refine (isNaNI_calls _ _).mono ?_;rintro e w1 ⟨rfl,rfl⟩)
    go_ret
    exact ⟨by unfold cmpI;rw [if_pos h1];rfl,rfl⟩
  · by_cases h2 : y < x
    · go_enter Try.func81, Try.ntmps81
      go_wp2_with (go_at_call 117;refine (isNaNI_calls _ _).mono ?_;rintro e w1 ⟨rfl,rfl⟩)
      go_ret
      exact ⟨by unfold cmpI;rw [if_neg (by omega),if_pos (by omega)];rfl,rfl⟩
    · go_enter Try.func81, Try.ntmps81
      go_wp2_with (go_at_call 117;refine (isNaNI_calls _ _).mono ?_;rintro e w1 ⟨rfl,rfl⟩)
      go_ret
      exact ⟨by unfold cmpI;rw [if_neg (by omega),if_neg (by omega)];rfl,rfl⟩
set_option maxHeartbeats 1000000 in
set_option maxRecDepth 100000 in
theorem cmpS_calls (x y:ByteArray) (w:World):Calls Try.prog 82 #[.string x, .string y] w fun e w'=>e= .returned (.int .i64 (cmpS x y))∧w'=w:=by
  by_cases h1:lt x y=true
  · have g1 : Op.bytesLess x.toList y.toList = true := h1
    go_enter Try.func82,Try.ntmps82
    go_wp2_with (go_at_call 118;refine (isNaNS_calls _ _).mono ?_;rintro e w1 ⟨rfl,rfl⟩)
    go_ret
    exact ⟨by unfold cmpS;rw [if_pos h1];rfl,rfl⟩
  · have g1 : Op.bytesLess x.toList y.toList = false := Bool.eq_false_iff.mpr h1
    by_cases h2:lt y x=true
    · have g3 : (x.toList == y.toList) = false := beq_eq_false_iff_ne.mpr (fun q => by rw [nm_inj.1 q, lt_irrefl] at h2; cases h2)
      go_enter Try.func82,Try.ntmps82
      go_wp2_with (go_at_call 118;refine (isNaNS_calls _ _).mono ?_;rintro e w1 ⟨rfl,rfl⟩)
      go_ret
      exact ⟨by unfold cmpS;rw [if_neg h1,if_pos h2];rfl,rfl⟩
    · have g3 : (x.toList == y.toList) = true := beq_iff_eq.mpr (nm_inj.2 (Classical.byContradiction fun q => h2 (lt_total (Bool.eq_false_iff.mpr h1) q)))
      go_enter Try.func82,Try.ntmps82
      go_wp2_with (go_at_call 118;refine (isNaNS_calls _ _).mono ?_;rintro e w1 ⟨rfl,rfl⟩)
      go_ret
      exact ⟨by unfold cmpS;rw [if_neg h1,if_neg h2];rfl,rfl⟩
def orI (x y:Int):Int:=if x=0 then y else x
set_option maxHeartbeats 1000000 in
set_option maxRecDepth 100000 in
theorem cmpOr_calls_ (b:Nat) (c:Nat) (x y:Int) (w:World) (h0:w.cell? ⟨b,0,none⟩=some (.int .i64 x)) (h1:w.cell? ⟨b,1,none⟩=some (.int .i64 y)):Calls Try.prog 80 #[.slice (some ⟨b,0,none⟩) 2 c] w fun e w'=>e= .returned (.int .i64 (if x=0 then y else x))∧w'=w:=by
  by_cases e1:x=0
  · subst e1
    by_cases e2:y=0
    · subst e2
      go_enter Try.func80,Try.ntmps80
      go_wp2
      refine wp_loop_rounds 3 ?_
      rw [rounds_succ]
      go_wp2
      rw [rounds_succ]
      go_wp2
      rw [rounds_succ]
      go_wp2
      go_ret
      exact ⟨rfl,rfl⟩
    · have f2 : (y != 0) = true := bne_iff_ne.mpr e2
      go_enter Try.func80,Try.ntmps80
      go_wp2
      refine wp_loop_rounds 2 ?_
      rw [rounds_succ]
      go_wp2
      rw [rounds_succ]
      go_wp2
      go_ret
      exact ⟨rfl,rfl⟩
  · have f1 : (x != 0) = true := bne_iff_ne.mpr e1
    go_enter Try.func80,Try.ntmps80
    go_wp2
    refine wp_loop_rounds 1 ?_
    rw [rounds_succ]
    go_wp2
    go_ret
    exact ⟨rfl,rfl⟩
theorem cmpOr_calls (b:Nat) (c:Nat) (x y:Int) (w:World) (h0:w.cell? ⟨b,0,none⟩=some (.int .i64 x)) (h1:w.cell? ⟨b,1,none⟩=some (.int .i64 y)):Calls Try.prog 80 #[.slice (some ⟨b,0,none⟩) 2 c] w fun e w'=>e= .returned (.int .i64 (orI x y))∧w'=w:=cmpOr_calls_ b c x y w h0 h1
def cmpW (f:ByteArray→Int) (x y:ByteArray):Int:=orI (cmpI (f x) (f y)) (cmpS x y)
set_option maxHeartbeats 8000000 in
set_option maxRecDepth 100000 in
theorem wantTop1_calls (w:World) (gd b mb n:Nat) (v0:Value) (f:ByteArray→Int) (hgd:w.heap[gd]?=some (.cells #[.pointer (some ⟨b,0,none⟩)] 108 (0,0))) (hb:w.heap[b]?=some (.cells #[v0, .map (some mb)] 113 (0,0))) (hm:MapAt w mb n f) (x y:S39) (hx:x.f0.size≤maxLen) (hy:y.f0.size≤maxLen):
    Calls Try.prog 79 #[.agg #[.string x.f0, .string x.f1, .int .i64 x.f2.f0, .int .i64 x.f2.f1, .int .i64 x.f2.f2], .agg #[.string y.f0, .string y.f1, .int .i64 y.f2.f0, .int .i64 y.f2.f1, .int .i64 y.f2.f2], .pointer (some ⟨gd,0,none⟩)] w fun e w'=>e= .returned (.int .i64 (cmpW f x.f0 y.f0))∧ ∃q os',w'=Sort.grow (w.drewN q) os':=by
  have hu113:=Try.underlying113
  have hu39:=Try.underlying39
  have HX:=Aside0.mk hx
  have HY:=Aside0.mk hy
  obtain ⟨wB,hwB⟩: ∃wB,wB=((w.alloc (.cells #[.string x.f0, .string x.f1, .int .i64 x.f2.f0, .int .i64 x.f2.f1, .int .i64 x.f2.f2] 39)).alloc (.cells #[.string y.f0, .string y.f1, .int .i64 y.f2.f0, .int .i64 y.f2.f1, .int .i64 y.f2.f2] 39)).drew:=⟨_,rfl⟩
  have hs1:(w.alloc (.cells #[.string x.f0, .string x.f1, .int .i64 x.f2.f0, .int .i64 x.f2.f1, .int .i64 x.f2.f2] 39)).heap.size=w.heap.size+1:=by simp
  have HGD:=Aside0.mk (show wB.heap[gd]?=some _ by rw [hwB];exact blk_drew (blk_alloc (blk_alloc hgd _) _))
  have HBK:=Aside0.mk (show wB.heap[b]?=some _ by rw [hwB];exact blk_drew (blk_alloc (blk_alloc hb _) _))
  have HM:=Aside0.mk (show MapAt wB mb n f by rw [hwB];exact ((hm.below (below_alloc (Below.refl _ _) _)).below (below_alloc (Below.refl _ _) _)).kept rfl)
  have H3:=Aside0.mk (show wB.heap[w.heap.size]?=some (.cells #[.string x.f0, .string x.f1, .int .i64 x.f2.f0, .int .i64 x.f2.f1, .int .i64 x.f2.f2] 39 (0,0)) by rw [hwB];exact blk_drew (blk_alloc (blk_new _ _) _))
  have H4:=Aside0.mk (show wB.heap[w.heap.size+1]?=some (.cells #[.string y.f0, .string y.f1, .int .i64 y.f2.f0, .int .i64 y.f2.f1, .int .i64 y.f2.f2] 39 (0,0)) by rw [hwB,←hs1];exact blk_drew (blk_new _ _))
  have HW:=Aside0.mk (show wB=Sort.grow (w.drewN 1) #[.cells #[.string x.f0, .string x.f1, .int .i64 x.f2.f0, .int .i64 x.f2.f1, .int .i64 x.f2.f2] 39, .cells #[.string y.f0, .string y.f1, .int .i64 y.f2.f0, .int .i64 y.f2.f1, .int .i64 y.f2.f2] 39] by rw [hwB,Sort.alloc_eq_grow,Sort.alloc_eq_grow,Sort.grow_grow];rfl)
  have HWB:=Aside0.mk hwB
  clear hgd hb hm hx hy hwB hs1
  obtain ⟨g3,hg3⟩: ∃g3,g3=w.heap.size:=⟨_,rfl⟩
  obtain ⟨g4,hg4⟩: ∃g4,g4=w.heap.size+1:=⟨_,rfl⟩
  rw [←hg3] at H3
  rw [←hg4] at H4
  go_enter Try.func79,Try.ntmps79
  go_upto_region 1 with (fail)
  rw [←hg4,←hg3]
  clear hg3 hg4
  refine start_ (n:=23) (S:=fun w'=>w'.cell? ⟨gd,0,none⟩=some (.pointer (some ⟨b,0,none⟩))∧w'.cell? ⟨b,1,none⟩=some (.map (some mb))∧w'.cell? ⟨g3,0,none⟩=some (.string x.f0)∧w'.cell? ⟨g4,0,none⟩=some (.string y.f0)∧(Instr.lookup 111 (.map (some mb)) (.string x.f0) false).run Try.prog w'= .ok (.int .i64 (f x.f0)) w'∧(Instr.lookup 111 (.map (some mb)) (.string y.f0) false).run Try.prog w'= .ok (.int .i64 (f y.f0)) w') (ds:=[]) #[false,false,false,false,false,false,false,false,false,false,false,false,false,false,false,false,false,false,false,false,false,false,false] (by kernel_rfl) rfl rfl (by rw [←HWB.out];exact ⟨(blk_cell HGD.out 0).trans rfl,(blk_cell HBK.out 1).trans rfl,(blk_cell H3.out 0).trans rfl,(blk_cell H4.out 0).trans rfl,HM.out.look Try.underlying111 HX.out _ rfl,HM.out.look Try.underlying111 HY.out _ rfl⟩) (fun hHeld=> ?_)
  rw [←HWB.out] at hHeld ⊢
  generalize wB=w9 at HGD HBK HM H3 H4 HW hHeld ⊢
  clear HWB
  refine take_ (i:=0) (N:=some 6) (v:= ?_) (a':= ?_) #[true,false,false,false,false,false,false,false,false,false,false,false,false,false,false,false,false,false,false,false,false,false,false] rfl rfl (by kernel_rfl) (fun _ _ _ h=>h) (Or.inl ⟨by rfl, ?_⟩) hHeld ?_ ?_;rotate_left;(rintro w' ⟨s0,s1,s2,s3,s4,s5⟩;go_simp;with_reducible rfl);rotate_left;(simp only [Act.put,List.setIfInBounds_toArray,List.set_cons_zero,List.set_cons_succ,i64_w,i32_w];rfl)
  refine pure_ (i:=1) (N:=some 7) (v:= ?_) (a':= ?_) #[true,true,false,false,false,false,false,false,false,false,false,false,false,false,false,false,false,false,false,false,false,false,false] rfl rfl (by kernel_rfl) (fun _ _ _ h=>h) (Or.inl ⟨by rfl, ?_⟩) ?_ ?_;rotate_left;(intro w';go_simp;with_reducible rfl);rotate_left;(simp only [Act.put,List.setIfInBounds_toArray,List.set_cons_zero,List.set_cons_succ,i64_w,i32_w];rfl)
  refine pure_ (i:=2) (N:=some 8) (v:= ?_) (a':= ?_) #[true,true,true,false,false,false,false,false,false,false,false,false,false,false,false,false,false,false,false,false,false,false,false] rfl rfl (by kernel_rfl) (fun _ _ _ h=>h) (Or.inl ⟨by rfl, ?_⟩) ?_ ?_;rotate_left;(intro w';go_simp;with_reducible rfl);rotate_left;(simp only [Act.put,List.setIfInBounds_toArray,List.set_cons_zero,List.set_cons_succ,i64_w,i32_w];rfl)
  refine take_ (i:=3) (N:=some 9) (v:= ?_) (a':= ?_) #[true,true,true,true,false,false,false,false,false,false,false,false,false,false,false,false,false,false,false,false,false,false,false] rfl rfl (by kernel_rfl) (fun _ _ _ h=>h) (Or.inl ⟨by rfl, ?_⟩) hHeld ?_ ?_;rotate_left;(rintro w' ⟨s0,s1,s2,s3,s4,s5⟩;go_simp;with_reducible rfl);rotate_left;(simp only [Act.put,List.setIfInBounds_toArray,List.set_cons_zero,List.set_cons_succ,i64_w,i32_w];rfl)
  refine pure_ (i:=4) (N:=some 10) (v:= ?_) (a':= ?_) #[true,true,true,true,true,false,false,false,false,false,false,false,false,false,false,false,false,false,false,false,false,false,false] rfl rfl (by kernel_rfl) (fun _ _ _ h=>h) (Or.inl ⟨by rfl, ?_⟩) ?_ ?_;rotate_left;(intro w';go_simp;with_reducible rfl);rotate_left;(simp only [Act.put,List.setIfInBounds_toArray,List.set_cons_zero,List.set_cons_succ,i64_w,i32_w];rfl)
  refine take_ (i:=5) (N:=some 11) (v:= ?_) (a':= ?_) #[true,true,true,true,true,true,false,false,false,false,false,false,false,false,false,false,false,false,false,false,false,false,false] rfl rfl (by kernel_rfl) (fun _ _ _ h=>h) (Or.inl ⟨by rfl, ?_⟩) hHeld ?_ ?_;rotate_left;(rintro w' ⟨s0,s1,s2,s3,s4,s5⟩;go_simp;with_reducible rfl);rotate_left;(simp only [Act.put,List.setIfInBounds_toArray,List.set_cons_zero,List.set_cons_succ,i64_w,i32_w];rfl)
  refine take_ (i:=6) (N:=some 12) (v:= ?_) (a':= ?_) #[true,true,true,true,true,true,true,false,false,false,false,false,false,false,false,false,false,false,false,false,false,false,false] rfl rfl (by kernel_rfl) (fun _ _ _ h=>h) (Or.inl ⟨by rfl, ?_⟩) hHeld ?_ ?_;rotate_left;(rintro w' ⟨s0,s1,s2,s3,s4,s5⟩;go_simp;with_reducible rfl);rotate_left;(simp only [Act.put,List.setIfInBounds_toArray,List.set_cons_zero,List.set_cons_succ,i64_w,i32_w];rfl)
  refine take_ (i:=7) (N:=some 13) (v:= ?_) (a':= ?_) #[true,true,true,true,true,true,true,true,false,false,false,false,false,false,false,false,false,false,false,false,false,false,false] rfl rfl (by kernel_rfl) (fun _ _ _ h=>h) (Or.inl ⟨by rfl, ?_⟩) hHeld ?_ ?_;rotate_left;(rintro w' ⟨s0,s1,s2,s3,s4,s5⟩;go_simp;with_reducible rfl);rotate_left;(simp only [Act.put,List.setIfInBounds_toArray,List.set_cons_zero,List.set_cons_succ,i64_w,i32_w];rfl)
  refine pure_ (i:=8) (N:=some 14) (v:= ?_) (a':= ?_) #[true,true,true,true,true,true,true,true,true,false,false,false,false,false,false,false,false,false,false,false,false,false,false] rfl rfl (by kernel_rfl) (fun _ _ _ h=>h) (Or.inl ⟨by rfl, ?_⟩) ?_ ?_;rotate_left;(intro w';go_simp;with_reducible rfl);rotate_left;(simp only [Act.put,List.setIfInBounds_toArray,List.set_cons_zero,List.set_cons_succ,i64_w,i32_w];rfl)
  refine pure_ (i:=9) (N:=some 15) (v:= ?_) (a':= ?_) #[true,true,true,true,true,true,true,true,true,true,false,false,false,false,false,false,false,false,false,false,false,false,false] rfl rfl (by kernel_rfl) (fun _ _ _ h=>h) (Or.inl ⟨by rfl, ?_⟩) ?_ ?_;rotate_left;(intro w';go_simp;with_reducible rfl);rotate_left;(simp only [Act.put,List.setIfInBounds_toArray,List.set_cons_zero,List.set_cons_succ,i64_w,i32_w];rfl)
  refine take_ (i:=10) (N:=some 16) (v:= ?_) (a':= ?_) #[true,true,true,true,true,true,true,true,true,true,true,false,false,false,false,false,false,false,false,false,false,false,false] rfl rfl (by kernel_rfl) (fun _ _ _ h=>h) (Or.inl ⟨by rfl, ?_⟩) hHeld ?_ ?_;rotate_left;(rintro w' ⟨s0,s1,s2,s3,s4,s5⟩;go_simp;with_reducible rfl);rotate_left;(simp only [Act.put,List.setIfInBounds_toArray,List.set_cons_zero,List.set_cons_succ,i64_w,i32_w];rfl)
  refine pure_ (i:=11) (N:=some 17) (v:= ?_) (a':= ?_) #[true,true,true,true,true,true,true,true,true,true,true,true,false,false,false,false,false,false,false,false,false,false,false] rfl rfl (by kernel_rfl) (fun _ _ _ h=>h) (Or.inl ⟨by rfl, ?_⟩) ?_ ?_;rotate_left;(intro w';go_simp;with_reducible rfl);rotate_left;(simp only [Act.put,List.setIfInBounds_toArray,List.set_cons_zero,List.set_cons_succ,i64_w,i32_w];rfl)
  refine take_ (i:=12) (N:=some 18) (v:= ?_) (a':= ?_) #[true,true,true,true,true,true,true,true,true,true,true,true,true,false,false,false,false,false,false,false,false,false,false] rfl rfl (by kernel_rfl) (fun _ _ _ h=>h) (Or.inl ⟨by rfl, ?_⟩) hHeld ?_ ?_;rotate_left;(rintro w' ⟨s0,s1,s2,s3,s4,s5⟩;go_simp;with_reducible rfl);rotate_left;(simp only [Act.put,List.setIfInBounds_toArray,List.set_cons_zero,List.set_cons_succ,i64_w,i32_w];rfl)
  refine take_ (i:=13) (N:=some 19) (v:= ?_) (a':= ?_) #[true,true,true,true,true,true,true,true,true,true,true,true,true,true,false,false,false,false,false,false,false,false,false] rfl rfl (by kernel_rfl) (fun _ _ _ h=>h) (Or.inl ⟨by rfl, ?_⟩) hHeld ?_ ?_;rotate_left;(rintro w' ⟨s0,s1,s2,s3,s4,s5⟩;go_simp;with_reducible rfl);rotate_left;(simp only [Act.put,List.setIfInBounds_toArray,List.set_cons_zero,List.set_cons_succ,i64_w,i32_w];rfl)
  refine pure_ (i:=15) (N:=some 21) (v:= ?_) (a':= ?_) #[true,true,true,true,true,true,true,true,true,true,true,true,true,true,false,true,false,false,false,false,false,false,false] rfl rfl (by kernel_rfl) (fun _ _ _ h=>h) (Or.inl ⟨by rfl, ?_⟩) ?_ ?_;rotate_left;(intro w';go_simp;with_reducible rfl);rotate_left;(simp only [Act.put,List.setIfInBounds_toArray,List.set_cons_zero,List.set_cons_succ,i64_w,i32_w];rfl)
  refine take_ (i:=16) (N:=some 22) (v:= ?_) (a':= ?_) #[true,true,true,true,true,true,true,true,true,true,true,true,true,true,false,true,true,false,false,false,false,false,false] rfl rfl (by kernel_rfl) (fun _ _ _ h=>h) (Or.inl ⟨by rfl, ?_⟩) hHeld ?_ ?_;rotate_left;(rintro w' ⟨s0,s1,s2,s3,s4,s5⟩;go_simp;with_reducible rfl);rotate_left;(simp only [Act.put,List.setIfInBounds_toArray,List.set_cons_zero,List.set_cons_succ,i64_w,i32_w];rfl)
  refine pure_ (i:=17) (N:=some 23) (v:= ?_) (a':= ?_) #[true,true,true,true,true,true,true,true,true,true,true,true,true,true,false,true,true,true,false,false,false,false,false] rfl rfl (by kernel_rfl) (fun _ _ _ h=>h) (Or.inl ⟨by rfl, ?_⟩) ?_ ?_;rotate_left;(intro w';go_simp;with_reducible rfl);rotate_left;(simp only [Act.put,List.setIfInBounds_toArray,List.set_cons_zero,List.set_cons_succ,i64_w,i32_w];rfl)
  refine take_ (i:=18) (N:=some 24) (v:= ?_) (a':= ?_) #[true,true,true,true,true,true,true,true,true,true,true,true,true,true,false,true,true,true,true,false,false,false,false] rfl rfl (by kernel_rfl) (fun _ _ _ h=>h) (Or.inl ⟨by rfl, ?_⟩) hHeld ?_ ?_;rotate_left;(rintro w' ⟨s0,s1,s2,s3,s4,s5⟩;go_simp;with_reducible rfl);rotate_left;(simp only [Act.put,List.setIfInBounds_toArray,List.set_cons_zero,List.set_cons_succ,i64_w,i32_w];rfl)
  refine one_ (i:=14) (N:=some 20) #[true,true,true,true,true,true,true,true,true,true,true,true,true,true,true,true,true,true,true,false,false,false,false] rfl rfl (by kernel_rfl) (by decide) (fun K hK=> ?_)
  refine goes_ Try.func81 (by kernel_rfl) rfl #[.int .i64 (f x.f0), .int .i64 (f y.f0)] (by rfl) rfl rfl (by (try simp only [List.map_toArray,List.map_cons,List.map_nil]);rfl) ?_
  refine (cmpI_calls (f x.f0) (f y.f0) _).mono ?_
  rintro e wq ⟨rfl,hwq⟩
  rw [hwq]
  clear hwq wq
  refine ⟨_,rfl, ?_⟩
  refine hK.out _ _ ⟨(blk_cell HGD.out 0).trans rfl,(blk_cell HBK.out 1).trans rfl,(blk_cell H3.out 0).trans rfl,(blk_cell H4.out 0).trans rfl,HM.out.look Try.underlying111 HX.out _ rfl,HM.out.look Try.underlying111 HY.out _ rfl⟩ (fun hHeld=> ?_)
  clear hK K
  refine norm_ (a':= ?_) ?_ ?_
  rotate_left
  · show Act.put _ (some 20) _ = _
    simp only [Act.put,List.setIfInBounds_toArray,List.set_cons_zero,List.set_cons_succ,i64_w,i32_w]
    rfl
  refine one_ (i:=19) (N:=some 25) #[true,true,true,true,true,true,true,true,true,true,true,true,true,true,true,true,true,true,true,true,false,false,false] rfl rfl (by kernel_rfl) (by decide) (fun K hK=> ?_)
  refine goes_ Try.func82 (by kernel_rfl) rfl #[.string x.f0, .string y.f0] (by rfl) rfl rfl (by (try simp only [List.map_toArray,List.map_cons,List.map_nil]);rfl) ?_
  refine (cmpS_calls x.f0 y.f0 _).mono ?_
  rintro e wq ⟨rfl,hwq⟩
  rw [hwq]
  clear hwq wq
  refine ⟨_,rfl, ?_⟩
  refine hK.out _ _ ⟨(blk_cell HGD.out 0).trans rfl,(blk_cell HBK.out 1).trans rfl,(blk_cell H3.out 0).trans rfl,(blk_cell H4.out 0).trans rfl,HM.out.look Try.underlying111 HX.out _ rfl,HM.out.look Try.underlying111 HY.out _ rfl⟩ (fun hHeld=> ?_)
  clear hK K
  refine norm_ (a':= ?_) ?_ ?_
  rotate_left
  · show Act.put _ (some 25) _ = _
    simp only [Act.put,List.setIfInBounds_toArray,List.set_cons_zero,List.set_cons_succ,i64_w,i32_w]
    rfl
  refine one_ (i:=20) (N:=some 26) #[true,true,true,true,true,true,true,true,true,true,true,true,true,true,true,true,true,true,true,true,true,false,false] rfl rfl (by kernel_rfl) (by decide) (fun K hK=> ?_)
  refine event_step (by rfl) (v:= .slice (some ⟨w9.heap.size,0,none⟩) 2 2) (w1:=w9.alloc (.cells #[.int .i64 (cmpI (f x.f0) (f y.f0)), .int .i64 (cmpS x.f0 y.f0)] 3)) ?hr ?_
  (case hr=>first|(go_simp;done)|(go_simp;rfl))
  have hn:=blk_new w9 (.cells #[.int .i64 (cmpI (f x.f0) (f y.f0)), .int .i64 (cmpS x.f0 y.f0)] 3 (0,0))
  have n0_:=Aside0.mk (blk_alloc HGD.out (.cells #[.int .i64 (cmpI (f x.f0) (f y.f0)), .int .i64 (cmpS x.f0 y.f0)] 3))
  have n1_:=Aside0.mk (blk_alloc HBK.out (.cells #[.int .i64 (cmpI (f x.f0) (f y.f0)), .int .i64 (cmpS x.f0 y.f0)] 3))
  have n2_:=Aside0.mk (blk_alloc H3.out (.cells #[.int .i64 (cmpI (f x.f0) (f y.f0)), .int .i64 (cmpS x.f0 y.f0)] 3))
  have n3_:=Aside0.mk (blk_alloc H4.out (.cells #[.int .i64 (cmpI (f x.f0) (f y.f0)), .int .i64 (cmpS x.f0 y.f0)] 3))
  have n4_:=Aside0.mk (HM.out.below (below_alloc (Below.refl _ _) (.cells #[.int .i64 (cmpI (f x.f0) (f y.f0)), .int .i64 (cmpS x.f0 y.f0)] 3)))
  have HN:=Aside0.mk hn
  clear hn
  obtain ⟨gs,hgs⟩: ∃gs,gs=w9.heap.size:=⟨_,rfl⟩
  rw [←hgs] at HN ⊢
  obtain ⟨wA,hwA⟩: ∃wA,wA=w9.alloc (.cells #[.int .i64 (cmpI (f x.f0) (f y.f0)), .int .i64 (cmpS x.f0 y.f0)] 3):=⟨_,rfl⟩
  rw [←hwA] at HN n0_ n1_ n2_ n3_ n4_ ⊢
  clear hgs
  have HWA:=Aside0.mk hwA
  clear hwA HGD HBK H3 H4 HM
  have HGD:=n0_
  have HBK:=n1_
  have H3:=n2_
  have H4:=n3_
  have HM:=n4_
  clear n0_ n1_ n2_ n3_ n4_
  refine hK.out _ _ ⟨(blk_cell HGD.out 0).trans rfl,(blk_cell HBK.out 1).trans rfl,(blk_cell H3.out 0).trans rfl,(blk_cell H4.out 0).trans rfl,HM.out.look Try.underlying111 HX.out _ rfl,HM.out.look Try.underlying111 HY.out _ rfl⟩ (fun hHeld=> ?_)
  clear hK K
  refine norm_ (a':= ?_) ?_ ?_
  rotate_left
  · show Act.put _ (some 26) _ = _
    simp only [Act.put,List.setIfInBounds_toArray,List.set_cons_zero,List.set_cons_succ,i64_w,i32_w]
    rfl
  refine one_ (i:=21) (N:=some 27) #[true,true,true,true,true,true,true,true,true,true,true,true,true,true,true,true,true,true,true,true,true,true,false] rfl rfl (by kernel_rfl) (by decide) (fun K hK=> ?_)
  refine goes_ Try.func80 (by kernel_rfl) rfl #[.slice (some ⟨gs,0,none⟩) 2 2] (by rfl) rfl rfl (by (try simp only [List.map_toArray,List.map_cons,List.map_nil]);rfl) ?_
  refine (cmpOr_calls gs 2 (cmpI (f x.f0) (f y.f0)) (cmpS x.f0 y.f0) wA ((blk_cell HN.out 0).trans rfl) ((blk_cell HN.out 1).trans rfl)).mono ?_
  rintro e wq ⟨rfl,hwq⟩
  rw [hwq]
  clear hwq wq
  refine ⟨_,rfl, ?_⟩
  refine hK.out _ _ ⟨(blk_cell HGD.out 0).trans rfl,(blk_cell HBK.out 1).trans rfl,(blk_cell H3.out 0).trans rfl,(blk_cell H4.out 0).trans rfl,HM.out.look Try.underlying111 HX.out _ rfl,HM.out.look Try.underlying111 HY.out _ rfl⟩ (fun hHeld=> ?_)
  clear hK K
  refine norm_ (a':= ?_) ?_ ?_
  rotate_left
  · show Act.put _ (some 27) _ = _
    simp only [Act.put,List.setIfInBounds_toArray,List.set_cons_zero,List.set_cons_succ,i64_w,i32_w]
    rfl
  refine pure_ (i:=22) (N:=some 5) (v:= ?_) (a':= ?_) #[true,true,true,true,true,true,true,true,true,true,true,true,true,true,true,true,true,true,true,true,true,true,true] rfl rfl (by kernel_rfl) (fun _ _ _ h=>h) (Or.inl ⟨by rfl, ?_⟩) ?_ ?_;rotate_left;(intro w';go_simp;with_reducible rfl);rotate_left;(simp only [Act.put,List.setIfInBounds_toArray,List.set_cons_zero,List.set_cons_succ,i64_w,i32_w];rfl)
  refine done_ (by kernel_rfl) ?_
  go_wp2
  go_ret
  exact ⟨rfl,1,#[.cells #[.string x.f0, .string x.f1, .int .i64 x.f2.f0, .int .i64 x.f2.f1, .int .i64 x.f2.f2] 39, .cells #[.string y.f0, .string y.f1, .int .i64 y.f2.f0, .int .i64 y.f2.f1, .int .i64 y.f2.f2] 39]++#[.cells #[.int .i64 (cmpI (f x.f0) (f y.f0)), .int .i64 (cmpS x.f0 y.f0)] 3],by rw [HWA.out,HW.out,Sort.alloc_eq_grow,Sort.grow_grow]⟩
end Go.Proofs.Ytahidkjncljkaaa.Print

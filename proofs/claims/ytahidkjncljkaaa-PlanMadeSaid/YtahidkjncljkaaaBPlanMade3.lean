/- PlanMade: a part -/
import Derived.Sort.Grow
import Derived.Shelf.SlSortCmp.KitK
import Derived.Deep.LoopGhost
import Derived.Shelf.Abstract
import Derived.Laws.Cover1
import Derived.WalkSpells
import Derived.Shelf.GgSortFunc.RowK
import Derived.Test.YtahidkjncljkaaaBPlanMade0
import Derived.Test.YtahidkjncljkaaaBPlanMade1
import Derived.Test.YtahidkjncljkaaaBPlanMade2
set_option linter.unusedVariables false
set_option linter.unusedSimpArgs false
namespace Go.Proofs.Ytahidkjncljkaaa.Print
open Go.Shelf Go.RowKit Go.Lib Go.Sort
open Go.Proofs.YtahidkjncljkaaaW.PrintWords Go.Proofs.YtahidkjncljkaaaW.PrintLast Go.Proofs.YtahidkjncljkaaaW.PrintMore
structure BelowBy (W:World) where
 w:World
 h:Below W.heap.size W w
instance (W:World):Inhabited (BelowBy W):=⟨⟨W,Below.refl _ _⟩⟩
theorem wp_region_quiet_below {P:Program} {id:Nat} {Q:Exit→Act→World→Prop} {a:Act} {W:World} {l:List Oper} (hm:P.follows .mixedOrders=true) (hB:Region.lexB .any l.toArray=true)
  (h:wpQuiet P l.toArray (fun w'=> ∃p:BelowBy W,w'=p.w) (fun a'=> ∀w',(∃p:BelowBy W,w'=p.w)→Q .normal a' w') l a):(Code.region id l.toArray true).wp P Q a W:=
 wp_region_quiet (C:=fun w'=> ∃p:BelowBy W,w'=p.w) hm hB ⟨⟨W.drew,below_drew (Below.refl _ _)⟩,rfl⟩ (by simpa using h)
theorem Calls.below_of {P:Program} {f:FuncId} {args:Array Value} {W:World} {p:BelowBy W} {v:Value}
  (h:Calls P f args p.w fun e w'=>e= .returned v∧Below p.w.heap.size p.w w'):Calls P f args p.w fun e w''=>e= .returned v∧ ∃p':BelowBy W,w''=p'.w:=
 h.mono fun _ w'' ⟨he,hb⟩=>⟨he,⟨w'',below_step p.h hb⟩,rfl⟩
structure SRow (w0:World) (blk cap:Nat) (d:Array ByteArray) (w:World):Prop where
 gb:w0.grownBy w (some blk)
 row: ∃cur:Array Value,w.heap[blk]?=some (Obj.cells cur 9 (0,0))∧cur.size=cap∧cur.toList.take d.size=d.toList.map Value.string
def CmpS (P:Program) (g:Nat) (cb:Array Value) (cf:ByteArray→ByteArray→Int) (w0:World) (blk cap n:Nat):Prop:=
 ∀(d:Array ByteArray) (w:World),d.size=n→SRow w0 blk cap d w→ ∀x y,Calls P g (#[.string x, .string y]++cb) w fun e w'=>e= .returned (.int .i64 (cf x y))∧Below w.heap.size w w'
theorem SRow.lt {w0 w:World} {blk cap:Nat} {d:Array ByteArray} (S:SRow w0 blk cap d w):blk<w.heap.size:=by
 obtain ⟨cur,h,_⟩:=S.row;exact blk_lt h
theorem grownBy_below {w0 w w':World} {row:Option Nat} (h:w0.grownBy w row) (hb:Below w.heap.size w w'):w0.grownBy w' row:=
 ⟨hb.os.trans h.os,hb.tape.trans h.tape,hb.output.trans h.output,Nat.le_trans h.size hb.size,fun k hk hn=>(hb.block k (Nat.lt_of_lt_of_le hk h.size)).trans (h.block k hk hn)⟩
theorem SRow.below {w0 w w':World} {blk cap:Nat} {d:Array ByteArray} (S:SRow w0 blk cap d w) (R:blk<w0.heap.size) (hb:Below w.heap.size w w'):SRow w0 blk cap d w':=by
 obtain ⟨cur,h,hs,ht⟩:=S.row;exact ⟨grownBy_below S.gb hb,cur,blk_below h hb,hs,ht⟩
theorem SRow.get {w0 w:World} {blk cap:Nat} {d:Array ByteArray} (S:SRow w0 blk cap d w) (i:Nat) (hi:i<d.size):w.cell? ⟨blk,i,none⟩=some (.string d[i]!):=by
 obtain ⟨cur,h,hs,ht⟩:=S.row;rw [blk_cell h i];have e:(cur.toList.take d.size)[i]?=(d.toList.map Value.string)[i]?:=by rw [ht]
 rw [List.getElem?_take_of_lt hi,Array.getElem?_toList,List.getElem?_map,Array.getElem?_toList,Array.getElem?_eq_getElem hi] at e;rw [e,getElem!_pos d i hi]
 rfl
theorem SRow.ld {w0 w:World} {blk cap:Nat} {d:Array ByteArray} (S:SRow w0 blk cap d w) (R:blk<w0.heap.size) (i:Nat) (hi:i<d.size): ∀p:BelowBy w,p.w.cell? ⟨blk,i,none⟩=some (.string d[i]!):=fun p=>(S.below R p.h).get i hi
theorem SRow.cmp {P:Program} {g n:Nat} {cb:Array Value} {cf:ByteArray→ByteArray→Int} {w0 w:World} {blk cap:Nat} {d:Array ByteArray} (S:SRow w0 blk cap d w) (R:blk<w0.heap.size) (hC:CmpS P g cb cf w0 blk cap n) (hn:d.size=n) (p:BelowBy w) (x y:ByteArray):
 Calls P g (#[.string x, .string y]++cb) p.w fun e w'=>e= .returned (.int .i64 (cf x y))∧Below p.w.heap.size p.w w':=hC d p.w hn (S.below R p.h) x y
theorem SRow.ld1 {w0 w:World} {blk cap:Nat} {d:Array ByteArray} (S:SRow w0 blk cap d w) (i:Nat) (hi:i<d.size):w.drew.cell? ⟨blk,i,none⟩=some (.string d[i]!):=S.get i hi
theorem SRow.fr1 {w0 w:World} {blk cap:Nat} {d:Array ByteArray} (S:SRow w0 blk cap d w) (i:Nat):w.drew.frozen? ⟨blk,i,none⟩=false:=by
 obtain ⟨cur,h,hs,ht⟩:=S.row;exact blk_frozen h i
theorem setCell_blk {w:World} {blk i:Nat} {cur:Array Value} {t:TypeId} {u:Value} (h:w.heap[blk]?=some (Obj.cells cur t (0,0))):(w.setCell ⟨blk,i,none⟩ u).heap[blk]?=some (Obj.cells (cur.setIfInBounds i u) t (0,0)):=by
 show (w.heap.modify blk _)[blk]?=_
 rw [Array.getElem?_modify,if_pos rfl,h]
 rfl
theorem SRow.st2 {w0 w:World} {blk cap:Nat} {d:Array ByteArray} (S:SRow w0 blk cap d w) (i j:Nat) (hj:j<d.size) (u:Value): ∃u',(w.setCell ⟨blk,i,none⟩ u).drew.cell? ⟨blk,j,none⟩=some u':=by
 obtain ⟨cur,h,hs,ht⟩:=S.row
 have hc:d.size≤cur.size:=by
  have:=congrArg List.length ht
  rw [List.length_take,List.length_map,Array.length_toList,Array.length_toList] at this
  omega
 have h2:=setCell_blk (i:=i) (u:=u) h;have h3:(w.setCell ⟨blk,i,none⟩ u).drew.cell? ⟨blk,j,none⟩=(cur.setIfInBounds i u)[j]?:=blk_cell h2 j;exact ⟨_,h3.trans (Array.getElem?_eq_getElem (by rw [Array.size_setIfInBounds];omega))⟩
theorem SRow.fr2 {w0 w:World} {blk cap:Nat} {d:Array ByteArray} (S:SRow w0 blk cap d w) (i j:Nat) (u:Value):(w.setCell ⟨blk,i,none⟩ u).drew.frozen? ⟨blk,j,none⟩=false:=by
 obtain ⟨cur,h,hs,ht⟩:=S.row;exact blk_frozen (setCell_blk (i:=i) (u:=u) h) j
theorem SRow.swapped {w0 w:World} {blk cap:Nat} {d:Array ByteArray} (S:SRow w0 blk cap d w) (R:blk<w0.heap.size) (i j:Nat) (hi:i<d.size) (hj:j<d.size):
    SRow w0 blk cap (swp d i j) ((w.drew.setCell ⟨blk,i,none⟩ (.string d[j]!)).setCell ⟨blk,j,none⟩ (.string d[i]!)):=by
  obtain ⟨cur,h,hs,ht⟩:=S.row;have h1:w.drew.heap[blk]?=some (Obj.cells cur 9 (0,0)):=h;have h2:=setCell_blk (i:=i) (u:= .string d[j]!) h1;have h3:=setCell_blk (i:=j) (u:= .string d[i]!) h2;refine ⟨⟨S.gb.os,S.gb.tape,S.gb.output, ?_,fun k hk hn=> ?_⟩,_,h3, ?_, ?_⟩
  · have := S.gb.size
    simpa using this
  · have hne : k ≠ blk := fun e => hn (by rw [e])
    rw [Below.heap_setCell _ _ _ k hne,Below.heap_setCell _ _ _ k hne]
    exact S.gb.block k hk hn
  · simp [hs]
  rw [size_swp];simp only [swp,Array.toList_setIfInBounds,List.take_set,ht,List.map_set]
structure SortTS (P:Program):Prop where
 mixed:P.follows .mixedOrders=true
 t0:P.underlying 0=some (TypeDesc.tuple #[])
 a0: ∀w,(isAgg 0).run P w= .ok false w
 z0: ∀w,(Go.sizeOf 0).run P w= .ok 1 w
 v0: ∀w,(zeroValue 0).run P w= .ok (Value.tuple #[]) w
 t3:P.underlying 3=some (TypeDesc.int IntKind.i64)
 a3: ∀w,(isAgg 3).run P w= .ok false w
 z3: ∀w,(Go.sizeOf 3).run P w= .ok 1 w
 v3: ∀w,(zeroValue 3).run P w= .ok (Value.int IntKind.i64 0) w
 t4:P.underlying 4=some (TypeDesc.bool)
 a4: ∀w,(isAgg 4).run P w= .ok false w
 z4: ∀w,(Go.sizeOf 4).run P w= .ok 1 w
 v4: ∀w,(zeroValue 4).run P w= .ok (Value.bool false) w
 t5:P.underlying 207=some (TypeDesc.int IntKind.u64)
 a5: ∀w,(isAgg 207).run P w= .ok false w
 z5: ∀w,(Go.sizeOf 207).run P w= .ok 1 w
 v5: ∀w,(zeroValue 207).run P w= .ok (Value.int IntKind.u64 0) w
 t22:P.underlying 85=some (TypeDesc.slice 9)
 a22: ∀w,(isAgg 85).run P w= .ok false w
 z22: ∀w,(Go.sizeOf 85).run P w= .ok 1 w
 v22: ∀w,(zeroValue 85).run P w= .ok (Value.slice none 0 0) w
 t25:P.underlying 120=some (TypeDesc.func #[9,9] #[3] false)
 a25: ∀w,(isAgg 120).run P w= .ok false w
 z25: ∀w,(Go.sizeOf 120).run P w= .ok 1 w
 v25: ∀w,(zeroValue 120).run P w= .ok (Value.nilFunc) w
 tE:P.underlying 9=some (TypeDesc.string)
 aE: ∀w,(isAgg 9).run P w= .ok false w
 zE: ∀w,(Go.sizeOf 9).run P w= .ok 1 w
 vE: ∀w,(zeroValue 9).run P w= .ok (Value.string ⟨#[]⟩) w

set_option maxHeartbeats 4000000 in
set_option maxRecDepth 1000000 in
theorem swapRange_s {P:Program} (F:P.funcs[179]?=some Try.f179) (L:SortTS P) (g:Nat) (cb:Array Value) (blk cap a b n:Nat) (d0 d:Array ByteArray) (w0 w:World)
    (R:blk<w0.heap.size) (hs:d0.size=d.size) (S:SRow w0 blk cap d w) (hab:a+n≤b) (hb:b+n≤d.size) (hsz:d.size<4611686018427387904):
    Calls P 179 #[.slice (some ⟨blk,0,none⟩) d.size cap, .int .i64 a, .int .i64 b, .int .i64 n, .func (.func g) #[] cb] w fun e w'=>e= .returned (.tuple #[])∧ ∃d',SRow w0 blk cap d' w'∧SwapAt a b n d d'∧PermIn a (b+n) d d':=by
  have mixed:=L.mixed;have t0:=L.t0;have a0:=L.a0;have z0:=L.z0;have v0:=L.v0;have t3:=L.t3;have a3:=L.a3;have z3:=L.z3;have v3:=L.v3;have t4:=L.t4;have a4:=L.a4;have z4:=L.z4;have v4:=L.v4;have t5:=L.t5;have a5:=L.a5;have z5:=L.z5;have v5:=L.v5;have t22:=L.t22;have a22:=L.a22;have z22:=L.z22;have v22:=L.v22;have t25:=L.t25;have a25:=L.a25;have z25:=L.z25;have v25:=L.v25;have tE:=L.tE;have aE:=L.aE;have zE:=L.zE;have vE:=L.vE;have u0:=run_underlying L.t0;have u3:=run_underlying L.t3;have u4:=run_underlying L.t4;have u5:=run_underlying L.t5;have u22:=run_underlying L.t22;have uE:=run_underlying L.tE;have S0:Aside (SRow w0 blk cap d w):=S;clear S;go_enter F,Try.ntmps179;go_wp2
  go_loopg [10] n (fun kx s10 wr=> ∃(i:Nat) (dk:Array ByteArray),s10= .int .i64 i∧i≤n∧n - i≤kx∧dk.size=d.size∧Aside (SRow w0 blk cap dk wr)∧Hid (SwapAt a b i d dk∧PermIn a (b+n) d dk))
  case atStart=>exact ⟨0,d,rfl,by omega,by omega,rfl,S0,(⟨swapAt_zero _ _ _,permIn_refl _ _ _⟩:_∧_)⟩
  case round=>
    clear S0;obtain ⟨i,dk,rfl,hin,hkx,hds,S1,HH⟩:=hrel;by_cases hlt:i<n;rotate_left
    · have hltz : ¬ (i : Int) < (n : Int) := by omega
      obtain rfl:i=n:=by omega
      go_wp2
      go_end0
      exact ⟨rfl,dk,S1.out,HH.out.1,HH.out.2⟩
    have hltz:(i:Int)<(n:Int):=by omega
    go_wp2_with fail
    have eaq:((a:Int)+(i:Int)).toNat=a+i:=by omega
    have paq:(0:Int)≤(a:Int)+(i:Int):=by omega
    have baq:(a:Int)+(i:Int)<(d.size:Int):=by omega
    have raq:IntKind.i64.wrap ((a:Int)+(i:Int))=(a:Int)+(i:Int):=by rw [IntKind.wrap_i64];omega
    have ecq:((b:Int)+(i:Int)).toNat=b+i:=by omega
    have pcq:(0:Int)≤(b:Int)+(i:Int):=by omega
    have bcq:(b:Int)+(i:Int)<(d.size:Int):=by omega
    have rcq:IntKind.i64.wrap ((b:Int)+(i:Int))=(b:Int)+(i:Int):=by rw [IntKind.wrap_i64];omega
    have S2:Aside (SRow w0 blk cap (swp dk (a+i) (b+i)) ((wr.setCell ⟨blk,a+i,none⟩ (.string dk[b+i]!)).setCell ⟨blk,b+i,none⟩ (.string dk[a+i]!)).drew):=S1.out.swapped R (a+i) (b+i) (by omega) (by omega);have laq:wr.drew.cell? ⟨blk,a+i,none⟩=some (.string dk[a+i]!):=S1.out.ld1 (a+i) (by omega);have lbq:wr.drew.cell? ⟨blk,b+i,none⟩=some (.string dk[b+i]!):=S1.out.ld1 (b+i) (by omega);have saq:wr.drew.frozen? ⟨blk,a+i,none⟩=false:=S1.out.fr1 (a+i);have sbq:wr.drew.frozen? ⟨blk,b+i,none⟩=false:=S1.out.fr1 (b+i);obtain ⟨u2q,scq⟩:=S1.out.st2 (a+i) (b+i) (by omega) (.string dk[b+i]!);have sdq:=S1.out.fr2 (a+i) (b+i) (.string dk[b+i]!);generalize dk[a+i]! =cIq at S2 laq;generalize dk[b+i]! =cJq at S2 lbq scq sdq;clear S1;go_wp2_with fail
    go_big_region_o
    clear laq lbq saq sbq;generalize ((wr.setCell ⟨blk,a+i,none⟩ (.string cJq)).setCell ⟨blk,b+i,none⟩ (.string cIq)).drew=w2 at S2 ⊢;go_wp2
    go_roundg (n - (i+1))
    case measure=>omega
    case rel=>
      have HH2:Hid (SwapAt a b (i+1) d (swp dk (a+i) (b+i))∧PermIn a (b+n) d (swp dk (a+i) (b+i))):=(⟨swapAt_step HH.out.1 (by omega) (by omega),permIn_trans _ _ _ _ _ HH.out.2 (swp_permIn dk a (b+n) (a+i) (b+i) (by omega) (by omega) (by omega) (by omega) (by omega))⟩:_∧_);exact ⟨i+1,swp dk (a+i) (b+i),by go_num,by omega,Nat.le_refl _,by rw [size_swp];exact hds,S2,HH2⟩
set_option maxHeartbeats 4000000 in
set_option maxRecDepth 1000000 in
theorem rotate_s {P:Program} (FS:P.funcs[179]?=some Try.f179) (F:P.funcs[177]?=some Try.f177) (L:SortTS P) (g:Nat) (cb:Array Value) (blk cap a m b:Nat) (d0 d:Array ByteArray) (w0 w:World)
    (R:blk<w0.heap.size) (hs:d0.size=d.size) (S:SRow w0 blk cap d w) (ham:a<m) (hmb:m<b) (hb:b≤d.size) (hsz:d.size<4611686018427387904):
    Calls P 177 #[.slice (some ⟨blk,0,none⟩) d.size cap, .int .i64 a, .int .i64 m, .int .i64 b, .func (.func g) #[] cb] w fun e w'=>e= .returned (.tuple #[])∧ ∃d',SRow w0 blk cap d' w'∧RotAt a m b d d'∧PermIn a b d d':=by
  have mixed:=L.mixed;have t0:=L.t0;have a0:=L.a0;have z0:=L.z0;have v0:=L.v0;have t3:=L.t3;have a3:=L.a3;have z3:=L.z3;have v3:=L.v3;have t4:=L.t4;have a4:=L.a4;have z4:=L.z4;have v4:=L.v4;have t5:=L.t5;have a5:=L.a5;have z5:=L.z5;have v5:=L.v5;have t22:=L.t22;have a22:=L.a22;have z22:=L.z22;have v22:=L.v22;have t25:=L.t25;have a25:=L.a25;have z25:=L.z25;have v25:=L.v25;have tE:=L.tE;have aE:=L.aE;have zE:=L.zE;have vE:=L.vE;have u0:=run_underlying L.t0;have u3:=run_underlying L.t3;have u4:=run_underlying L.t4;have u5:=run_underlying L.t5;have u22:=run_underlying L.t22;have uE:=run_underlying L.tE;have S0:Aside (SRow w0 blk cap d w):=S;clear S;have eS: ∀args w,(callFunc 179 args).run P w= .ok (.enter 179 args) w:=enters_of FS (by kernel_rfl) rfl;go_enter F,Try.ntmps177;go_wp2
  go_loopg [10,11] (b - a) (fun kx s10 s11 wr=> ∃(i j:Nat) (dk:Array ByteArray),s10= .int .i64 i∧s11= .int .i64 j∧0<i∧0<j∧i≤m - a∧j≤b - m∧i+j≤kx∧dk.size=d.size∧Aside (SRow w0 blk cap dk wr)∧Hid ((∀d',RotAt (m - i) m (m+j) dk d'→RotAt a m b d d')∧PermIn a b d dk))
  case atStart=>exact ⟨m - a,b - m,d,by rw [show ((m - a:Nat):Int)=(m:Int) - (a:Int) by omega],by rw [show ((b - m:Nat):Int)=(b:Int) - (m:Int) by omega],by omega,by omega,by omega,by omega,by omega,rfl,S0,(⟨fun d' h=>by rwa [show m - (m - a)=a by omega,show m+(b - m)=b by omega] at h,permIn_refl _ _ _⟩:_∧_)⟩
  case round=>
    clear S0;obtain ⟨i,j,dk,rfl,rfl,hi0,hj0,him,hjm,hkx,hds,S1,HH⟩:=hrel;by_cases hne:i=j
    · subst hne
      have ha':((m - i:Nat):Int)=(m:Int) - (i:Int):=by omega
      have hcall:=swapRange_s FS L g cb blk cap (m - i) m i d0 dk w0 wr R (by omega) S1.out (by omega) (by omega) (by omega)
      rw [ha',hds] at hcall
      clear S1
      have hnz:((i:Int) !=(i:Int))=false:=by simp
      go_wp2_with (go_at_fn 179;refine hcall.mono ?_;rintro e w1 ⟨rfl,d',S2,X,Y⟩;have XX:Hid (SwapAt (m - i) m i dk d'∧PermIn (m - i) (m+i) dk d'):=(⟨X,Y⟩:_∧_);have S3:Aside (SRow w0 blk cap d' w1):=S2;clear X Y S2)
      go_end0
      exact ⟨rfl,d',S3.out,HH.out.1 d' (rot_same (by omega) XX.out.1),permIn_trans _ _ _ _ _ HH.out.2 (permIn_mono dk d' (m - i) (m+i) a b (by omega) (by omega) (by omega) XX.out.2)⟩
    have hnz:((i:Int) !=(j:Int))=true:=by simp;omega
    by_cases hgt:j<i
    · have hgz : (j : Int) < (i : Int) := by omega
      have ha':((m - i:Nat):Int)=(m:Int) - (i:Int):=by omega
      have hcall:=swapRange_s FS L g cb blk cap (m - i) m j d0 dk w0 wr R (by omega) S1.out (by omega) (by omega) (by omega)
      rw [ha',hds] at hcall
      clear S1
      go_wp2_with (go_at_fn 179;refine hcall.mono ?_;rintro e w1 ⟨rfl,d',S2,X,Y⟩;have XX:Hid (SwapAt (m - i) m j dk d'∧PermIn (m - i) (m+j) dk d'):=(⟨X,Y⟩:_∧_);have S3:Aside (SRow w0 blk cap d' w1):=S2;clear X Y S2)
      go_roundg (i - j+j)
      case measure=>omega
      case rel=>
        have hd':d'.size=d.size:=by rw [XX.out.1.1];exact hds
        have HH2:Hid ((∀d2,RotAt (m - (i - j)) m (m+j) d' d2→RotAt a m b d d2)∧PermIn a b d d'):=(⟨fun d2 h=>HH.out.1 d2 (rot_more hgt (by omega) XX.out.1 h),permIn_trans _ _ _ _ _ HH.out.2 (permIn_mono dk d' (m - i) (m+j) a b (by omega) (by omega) (by omega) XX.out.2)⟩:_∧_);exact ⟨i - j,j,d',by rw [show ((i - j:Nat):Int)=(i:Int) - (j:Int) by omega],rfl,by omega,hj0,by omega,hjm,Nat.le_refl _,hd',S3,HH2⟩
    have hgz: ¬(j:Int)<(i:Int):=by omega
    have ha':((m - i:Nat):Int)=(m:Int) - (i:Int):=by omega
    have hb':((m+j - i:Nat):Int)=(m:Int)+(j:Int) - (i:Int):=by omega
    have hcall:=swapRange_s FS L g cb blk cap (m - i) (m+j - i) i d0 dk w0 wr R (by omega) S1.out (by omega) (by omega) (by omega);rw [ha',hb',hds] at hcall;clear S1;go_wp2_with (go_at_fn 179;refine hcall.mono ?_;rintro e w1 ⟨rfl,d',S2,X,Y⟩;have XX:Hid (SwapAt (m - i) (m+j - i) i dk d'∧PermIn (m - i) (m+j - i+i) dk d'):=(⟨X,Y⟩:_∧_);have S3:Aside (SRow w0 blk cap d' w1):=S2;clear X Y S2)
    go_roundg (i+(j - i))
    case measure=>omega
    case rel=>
      have hd':d'.size=d.size:=by rw [XX.out.1.1];exact hds
      have HH2:Hid ((∀d2,RotAt (m - i) m (m+(j - i)) d' d2→RotAt a m b d d2)∧PermIn a b d d'):=(⟨fun d2 h=>HH.out.1 d2 (rot_less (by omega) (by omega) XX.out.1 h),permIn_trans _ _ _ _ _ HH.out.2 (permIn_mono dk d' (m - i) (m+j - i+i) a b (by omega) (by omega) (by omega) XX.out.2)⟩:_∧_);exact ⟨i,j - i,d',rfl,by rw [show ((j - i:Nat):Int)=(j:Int) - (i:Int) by omega],hi0,by omega,him,by omega,Nat.le_refl _,hd',S3,HH2⟩
def SymRS (P:Program) (cf:ByteArray→ByteArray→Int) (g:Nat) (cb:Array Value) (blk cap:Nat) (w0:World) (a m b:Nat) (d:Array ByteArray) (w:World):Prop:=
 Calls P 171 #[.slice (some ⟨blk,0,none⟩) d.size cap, .int .i64 a, .int .i64 m, .int .i64 b, .func (.func g) #[] cb] w fun e w'=>e= .returned (.tuple #[])∧ ∃d',SRow w0 blk cap d' w'∧SortedIn (ltOf cf) a b d'∧PermIn a b d d'
def SymNS (P:Program) (cf:ByteArray→ByteArray→Int) (g:Nat) (cb:Array Value) (blk cap:Nat) (d0:Array ByteArray) (w0:World) (N:Nat):Prop:=
 ∀(a m b:Nat) (d:Array ByteArray) (w:World),b - a≤N→d0.size=d.size→SRow w0 blk cap d w→a<m→m<b→b≤d.size→SortedIn (ltOf cf) a m d→SortedIn (ltOf cf) m b d→SymRS P cf g cb blk cap w0 a m b d w
set_option maxHeartbeats 8000000 in
set_option maxRecDepth 1000000 in
theorem symMerge_oneS {P:Program} (FS:P.funcs[179]?=some Try.f179) (FR:P.funcs[177]?=some Try.f177) (F:P.funcs[171]?=some Try.f171) (L:SortTS P) (cf:ByteArray→ByteArray→Int) (g:Nat) (cb:Array Value) (blk cap:Nat) (d0:Array ByteArray) (w0:World)
    (eg: ∀args w,(callFunc g args).run P w= .ok (.enter g args) w) (hcmp:CmpS P g cb cf w0 blk cap d0.size) (R:blk<w0.heap.size) (hO:SWO (ltOf cf)) (hsz:d0.size<2305843009213693952)
    (a m b:Nat) (d:Array ByteArray) (w:World) (c1:m=a+1) (hs:d0.size=d.size) (S:SRow w0 blk cap d w) (ham:a<m) (hmb:m<b) (hb:b≤d.size) (sA:SortedIn (ltOf cf) a m d) (sB:SortedIn (ltOf cf) m b d):SymRS P cf g cb blk cap w0 a m b d w:=by
  unfold SymRS;have mixed:=L.mixed;have t0:=L.t0;have a0:=L.a0;have z0:=L.z0;have v0:=L.v0;have t3:=L.t3;have a3:=L.a3;have z3:=L.z3;have v3:=L.v3;have t4:=L.t4;have a4:=L.a4;have z4:=L.z4;have v4:=L.v4;have t5:=L.t5;have a5:=L.a5;have z5:=L.z5;have v5:=L.v5;have t22:=L.t22;have a22:=L.a22;have z22:=L.z22;have v22:=L.v22;have t25:=L.t25;have a25:=L.a25;have z25:=L.z25;have v25:=L.v25;have tE:=L.tE;have aE:=L.aE;have zE:=L.zE;have vE:=L.vE;have u0:=run_underlying L.t0;have u3:=run_underlying L.t3;have u4:=run_underlying L.t4;have u5:=run_underlying L.t5;have u22:=run_underlying L.t22;have uE:=run_underlying L.tE;have eR: ∀args w,(callFunc 177 args).run P w= .ok (.enter 177 args) w:=enters_of FR (by kernel_rfl) rfl;have eY: ∀args w,(callFunc 171 args).run P w= .ok (.enter 171 args) w:=enters_of F (by kernel_rfl) rfl;have HC:Aside _:=hcmp;have S0:Aside (SRow w0 blk cap d w):=S;have SS:Hid (SortedIn (ltOf cf) a m d∧SortedIn (ltOf cf) m b d):=(⟨sA,sB⟩:_∧_);clear hcmp S sA sB;have c1z:(m:Int) - (a:Int)=1:=by omega
  have C1:Hid (m=a+1):=c1;clear c1;go_enter F,Try.ntmps171;go_wp2
  go_loopg [10,11] (b - a) (fun kx s10 s11 wr=> ∃lo hi:Nat,s10= .int .i64 lo∧s11= .int .i64 hi∧m≤lo∧lo≤hi∧hi≤b∧hi - lo≤kx∧Aside (SRow w0 blk cap d wr)∧Hid ((lo=m∨ltOf cf d[lo - 1]! d[a]! =true)∧(hi=b∨ltOf cf d[hi]! d[a]! =false)))
  case atStart=>exact ⟨m,b,rfl,rfl,Nat.le_refl _,by omega,Nat.le_refl _,by omega,S0,(⟨.inl rfl, .inl rfl⟩:_∧_)⟩
  case round=>
    clear S0;obtain ⟨lo,hi,rfl,rfl,hml,hlh,hhb,hg,S1,I⟩:=hrel;by_cases hlt:lo<hi;rotate_left
    · obtain rfl : hi = lo := by omega
      have hltz: ¬(hi:Int)<(hi:Int):=by omega
      go_wp2
      go_loopg [13] (b - a) (fun kx s13 wr2=> ∃(q:Nat) (dk:Array ByteArray),s13= .int .i64 q∧a≤q∧q+1≤hi∧hi - q≤kx∧dk.size=d.size∧Aside (SRow w0 blk cap dk wr2)∧Hid (RotAt a (a+1) (q+1) d dk∧PermIn a b d dk))
      case atStart=>exact ⟨a,d,rfl,Nat.le_refl _,by omega,by omega,rfl,S1,(⟨rot_right _ _ _,permIn_refl _ _ _⟩:_∧_)⟩
      case round=>
        clear S1;obtain ⟨q,dk,rfl,haq,hqh,hg2,hds,S1,HH⟩:=hrel;by_cases hq:q+1<hi;rotate_left
        · have hqz : ¬ (q : Int) < (hi : Int) - 1 := by omega
          go_wp2
          (try simp only [Exit.inBlock,Exit.then]);refine bodyPost_ret (results_none rfl _ _ _) rfl ?_
          refine ⟨rfl,dk,S1.out, ?_,HH.out.2⟩
          have hr:=HH.out.1
          rw [show q+1=hi by omega] at hr
          have sB:=SS.out.2
          rw [C1.out] at sB
          have i1:=I.out.1
          rw [C1.out] at i1
          exact ins_left hO hr (by omega) hhb sB (left_lt hO sB hhb i1) (left_ge hO sB (by omega) I.out.2)
        have hqz:(q:Int)<(hi:Int) - 1:=by omega
        go_wp2_with fail
        have eaq:((q:Int)).toNat=q:=by omega
        have paq:(0:Int)≤(q:Int):=by omega
        have baq:(q:Int)<(d.size:Int):=by omega
        have raq:IntKind.i64.wrap ((q:Int))=(q:Int):=by rw [IntKind.wrap_i64];omega
        have ecq:((q:Int)+1).toNat=q+1:=by omega
        have pcq:(0:Int)≤(q:Int)+1:=by omega
        have bcq:(q:Int)+1<(d.size:Int):=by omega
        have rcq:IntKind.i64.wrap ((q:Int)+1)=(q:Int)+1:=by rw [IntKind.wrap_i64];omega
        have S2:Aside (SRow w0 blk cap (swp dk (q) (q+1)) ((wr.setCell ⟨blk,q,none⟩ (.string dk[q+1]!)).setCell ⟨blk,q+1,none⟩ (.string dk[q]!)).drew):=S1.out.swapped R (q) (q+1) (by omega) (by omega);have laq:wr.drew.cell? ⟨blk,q,none⟩=some (.string dk[q]!):=S1.out.ld1 (q) (by omega);have lbq:wr.drew.cell? ⟨blk,q+1,none⟩=some (.string dk[q+1]!):=S1.out.ld1 (q+1) (by omega);have saq:wr.drew.frozen? ⟨blk,q,none⟩=false:=S1.out.fr1 (q);have sbq:wr.drew.frozen? ⟨blk,q+1,none⟩=false:=S1.out.fr1 (q+1);obtain ⟨u2q,scq⟩:=S1.out.st2 (q) (q+1) (by omega) (.string dk[q+1]!);have sdq:=S1.out.fr2 (q) (q+1) (.string dk[q+1]!);generalize dk[q]! =cIq at S2 laq;generalize dk[q+1]! =cJq at S2 lbq scq sdq;clear S1;go_wp2_with fail
        go_big_region_o
        clear laq lbq saq sbq;generalize ((wr.setCell ⟨blk,q,none⟩ (.string cJq)).setCell ⟨blk,q+1,none⟩ (.string cIq)).drew=w3 at S2 ⊢;go_wp2
        go_roundg (hi - (q+1))
        case measure=>omega
        case rel=>
          have HH2:Hid (RotAt a (a+1) (q+1+1) d (swp dk q (q+1))∧PermIn a b d (swp dk q (q+1))):=(⟨rot_up HH.out.1 haq (by omega),permIn_trans _ _ _ _ _ HH.out.2 (swp_permIn dk a b q (q+1) (by omega) (by omega) (by omega) (by omega) (by omega))⟩:_∧_);exact ⟨q+1,swp dk q (q+1),by go_num,by omega,by omega,Nat.le_refl _,by rw [size_swp];exact hds,S2,HH2⟩
    have hltz:(lo:Int)<(hi:Int):=by omega
    cases hlv:ltOf cf d[(lo+hi) / 2]! d[a]! with
    | true =>
      have eaht:(((lo:Int)+(hi:Int)) / 2).toNat=(lo+hi) / 2:=by omega
      have paht:(0:Int)≤((lo:Int)+(hi:Int)) / 2:=by omega
      have baht:((lo:Int)+(hi:Int)) / 2<(d.size:Int):=by omega
      have raht:IntKind.i64.wrap (((lo:Int)+(hi:Int)) / 2)=((lo:Int)+(hi:Int)) / 2:=by rw [IntKind.wrap_i64];omega
      have echt:((a:Int)).toNat=a:=by omega
      have pcht:(0:Int)≤(a:Int):=by omega
      have bcht:(a:Int)<(d.size:Int):=by omega
      have rcht:IntKind.i64.wrap ((a:Int))=(a:Int):=by rw [IntKind.wrap_i64];omega
      obtain ⟨xht,hxht⟩: ∃x,x=d[(lo+hi) / 2]!:=⟨_,rfl⟩;obtain ⟨yht,hyht⟩: ∃x,x=d[a]!:=⟨_,rfl⟩;have laht: ∀p:BelowBy wr,p.w.cell? ⟨blk,(lo+hi) / 2,none⟩=some (.string d[(lo+hi) / 2]!):=S1.out.ld R ((lo+hi) / 2) (by omega);have lbht: ∀p:BelowBy wr,p.w.cell? ⟨blk,a,none⟩=some (.string d[a]!):=S1.out.ld R (a) (by omega);rw [←hxht] at laht;rw [←hyht] at lbht;have hcht:=fun p:BelowBy wr=>S1.out.cmp R HC.out (by omega) p xht yht
      have hvht:cf xht yht<0:=by rw [hxht,hyht];exact of_decide_eq_true hlv
      have hdht:decide (cf xht yht<0)=true:=decide_eq_true hvht;clear hxht hyht;go_wp2_with fail
      refine wp_region_quiet_below (by assumption) (by kernel_rfl) ?_
      repeat (quiet_step (first|(go_at_fn g;refine Calls.below_of (hcht _))))
      refine wpQuiet_nil ?_;intro _ hw';obtain ⟨p,hw''⟩:=hw';subst hw'';have S2:Aside (SRow w0 blk cap d p.w):=S1.out.below R p.h;clear laht lbht hcht S1;generalize p.w=w2 at S2 ⊢;clear p;go_wp2
      go_roundg (hi - ((lo+hi) / 2+1))
      case measure=>omega
      case rel=>
        have I2:Hid ((((lo+hi) / 2+1)=m∨ltOf cf d[((lo+hi) / 2+1) - 1]! d[a]! =true)∧(hi=b∨ltOf cf d[hi]! d[a]! =false)):=(⟨.inr hlv,I.out.2⟩:_∧_);exact ⟨(lo+hi) / 2+1,hi,by rw [show ((lo:Int)+(hi:Int)) / 2+1=(((lo+hi) / 2+1:Nat):Int) by omega],rfl,by omega,by omega,by omega,Nat.le_refl _,S2,I2⟩
    | false =>
      have eahf:(((lo:Int)+(hi:Int)) / 2).toNat=(lo+hi) / 2:=by omega
      have pahf:(0:Int)≤((lo:Int)+(hi:Int)) / 2:=by omega
      have bahf:((lo:Int)+(hi:Int)) / 2<(d.size:Int):=by omega
      have rahf:IntKind.i64.wrap (((lo:Int)+(hi:Int)) / 2)=((lo:Int)+(hi:Int)) / 2:=by rw [IntKind.wrap_i64];omega
      have echf:((a:Int)).toNat=a:=by omega
      have pchf:(0:Int)≤(a:Int):=by omega
      have bchf:(a:Int)<(d.size:Int):=by omega
      have rchf:IntKind.i64.wrap ((a:Int))=(a:Int):=by rw [IntKind.wrap_i64];omega
      obtain ⟨xhf,hxhf⟩: ∃x,x=d[(lo+hi) / 2]!:=⟨_,rfl⟩;obtain ⟨yhf,hyhf⟩: ∃x,x=d[a]!:=⟨_,rfl⟩;have lahf: ∀p:BelowBy wr,p.w.cell? ⟨blk,(lo+hi) / 2,none⟩=some (.string d[(lo+hi) / 2]!):=S1.out.ld R ((lo+hi) / 2) (by omega);have lbhf: ∀p:BelowBy wr,p.w.cell? ⟨blk,a,none⟩=some (.string d[a]!):=S1.out.ld R (a) (by omega);rw [←hxhf] at lahf;rw [←hyhf] at lbhf;have hchf:=fun p:BelowBy wr=>S1.out.cmp R HC.out (by omega) p xhf yhf
      have hvhf: ¬cf xhf yhf<0:=by rw [hxhf,hyhf];exact of_decide_eq_false hlv
      have hdhf:decide (cf xhf yhf<0)=false:=decide_eq_false hvhf;clear hxhf hyhf;go_wp2_with fail
      refine wp_region_quiet_below (by assumption) (by kernel_rfl) ?_
      repeat (quiet_step (first|(go_at_fn g;refine Calls.below_of (hchf _))))
      refine wpQuiet_nil ?_;intro _ hw';obtain ⟨p,hw''⟩:=hw';subst hw'';have S2:Aside (SRow w0 blk cap d p.w):=S1.out.below R p.h;clear lahf lbhf hchf S1;generalize p.w=w2 at S2 ⊢;clear p;go_wp2
      go_roundg ((lo+hi) / 2 - lo)
      case measure=>omega
      case rel=>
        have I2:Hid ((lo=m∨ltOf cf d[lo - 1]! d[a]! =true)∧(((lo+hi) / 2)=b∨ltOf cf d[((lo+hi) / 2)]! d[a]! =false)):=(⟨I.out.1, .inr hlv⟩:_∧_);exact ⟨lo,(lo+hi) / 2,rfl,by rw [show ((lo:Int)+(hi:Int)) / 2=(((lo+hi) / 2:Nat):Int) by omega],by omega,by omega,by omega,Nat.le_refl _,S2,I2⟩
set_option maxHeartbeats 8000000 in
set_option maxRecDepth 1000000 in
theorem symMerge_lastS {P:Program} (FS:P.funcs[179]?=some Try.f179) (FR:P.funcs[177]?=some Try.f177) (F:P.funcs[171]?=some Try.f171) (L:SortTS P) (cf:ByteArray→ByteArray→Int) (g:Nat) (cb:Array Value) (blk cap:Nat) (d0:Array ByteArray) (w0:World)
    (eg: ∀args w,(callFunc g args).run P w= .ok (.enter g args) w) (hcmp:CmpS P g cb cf w0 blk cap d0.size) (R:blk<w0.heap.size) (hO:SWO (ltOf cf)) (hsz:d0.size<2305843009213693952)
    (a m b:Nat) (d:Array ByteArray) (w:World) (c1: ¬m=a+1) (c2:b=m+1) (hs:d0.size=d.size) (S:SRow w0 blk cap d w) (ham:a<m) (hmb:m<b) (hb:b≤d.size) (sA:SortedIn (ltOf cf) a m d) (sB:SortedIn (ltOf cf) m b d):SymRS P cf g cb blk cap w0 a m b d w:=by
  unfold SymRS;have mixed:=L.mixed;have t0:=L.t0;have a0:=L.a0;have z0:=L.z0;have v0:=L.v0;have t3:=L.t3;have a3:=L.a3;have z3:=L.z3;have v3:=L.v3;have t4:=L.t4;have a4:=L.a4;have z4:=L.z4;have v4:=L.v4;have t5:=L.t5;have a5:=L.a5;have z5:=L.z5;have v5:=L.v5;have t22:=L.t22;have a22:=L.a22;have z22:=L.z22;have v22:=L.v22;have t25:=L.t25;have a25:=L.a25;have z25:=L.z25;have v25:=L.v25;have tE:=L.tE;have aE:=L.aE;have zE:=L.zE;have vE:=L.vE;have u0:=run_underlying L.t0;have u3:=run_underlying L.t3;have u4:=run_underlying L.t4;have u5:=run_underlying L.t5;have u22:=run_underlying L.t22;have uE:=run_underlying L.tE;have eR: ∀args w,(callFunc 177 args).run P w= .ok (.enter 177 args) w:=enters_of FR (by kernel_rfl) rfl;have eY: ∀args w,(callFunc 171 args).run P w= .ok (.enter 171 args) w:=enters_of F (by kernel_rfl) rfl;have HC:Aside _:=hcmp;have S0:Aside (SRow w0 blk cap d w):=S;have SS:Hid (SortedIn (ltOf cf) a m d∧SortedIn (ltOf cf) m b d):=(⟨sA,sB⟩:_∧_);clear hcmp S sA sB;have c1z:((m:Int) - (a:Int)==1)=false:=by simp;omega
  have c2z:(b:Int) - (m:Int)=1:=by omega
  have C2:Hid (b=m+1):=c2;clear c2;go_enter F,Try.ntmps171;go_wp2
  go_loopg [14,15] (b - a) (fun kx s10 s11 wr=> ∃lo hi:Nat,s10= .int .i64 lo∧s11= .int .i64 hi∧a≤lo∧lo≤hi∧hi≤m∧hi - lo≤kx∧Aside (SRow w0 blk cap d wr)∧Hid ((lo=a∨ltOf cf d[m]! d[lo - 1]! =false)∧(hi=m∨ltOf cf d[m]! d[hi]! =true)))
  case atStart=>exact ⟨a,m,rfl,rfl,Nat.le_refl _,by omega,Nat.le_refl _,by omega,S0,(⟨.inl rfl, .inl rfl⟩:_∧_)⟩
  case round=>
    clear S0;obtain ⟨lo,hi,rfl,rfl,hml,hlh,hhb,hg,S1,I⟩:=hrel;by_cases hlt:lo<hi;rotate_left
    · obtain rfl : hi = lo := by omega
      have hltz: ¬(hi:Int)<(hi:Int):=by omega
      go_wp2
      go_loopg [17] (b - a) (fun kx s17 wr2=> ∃(q:Nat) (dk:Array ByteArray),s17= .int .i64 q∧hi≤q∧q≤m∧q - hi≤kx∧dk.size=d.size∧Aside (SRow w0 blk cap dk wr2)∧Hid (RotAt q m (m+1) d dk∧PermIn a b d dk))
      case atStart=>exact ⟨m,d,rfl,by omega,Nat.le_refl _,by omega,rfl,S1,(⟨rot_left _ _ _,permIn_refl _ _ _⟩:_∧_)⟩
      case round=>
        clear S1;obtain ⟨q,dk,rfl,haq,hqh,hg2,hds,S1,HH⟩:=hrel;by_cases hq:hi<q;rotate_left
        · have hqz : ¬ (hi : Int) < (q : Int) := by omega
          go_wp2
          (try simp only [Exit.inBlock,Exit.then]);refine bodyPost_ret (results_none rfl _ _ _) rfl ?_
          refine ⟨rfl,dk,S1.out, ?_,HH.out.2⟩
          have hr:=HH.out.1
          rw [show q=hi by omega] at hr
          rw [C2.out]
          exact ins_right_ hO hr hml hhb SS.out.1 (right_le hO SS.out.1 hhb I.out.1) (right_gt hO SS.out.1 hml I.out.2)
        obtain ⟨q,rfl⟩: ∃p,q=p+1:=⟨q - 1,by omega⟩;have hqz:(hi:Int)<(q:Int)+1:=by omega
        go_wp2_with fail
        have eaq:((q:Int)+1).toNat=q+1:=by omega
        have paq:(0:Int)≤(q:Int)+1:=by omega
        have baq:(q:Int)+1<(d.size:Int):=by omega
        have raq:IntKind.i64.wrap ((q:Int)+1)=(q:Int)+1:=by rw [IntKind.wrap_i64];omega
        have ecq:((q:Int)).toNat=q:=by omega
        have pcq:(0:Int)≤(q:Int):=by omega
        have bcq:(q:Int)<(d.size:Int):=by omega
        have rcq:IntKind.i64.wrap ((q:Int))=(q:Int):=by rw [IntKind.wrap_i64];omega
        have S2:Aside (SRow w0 blk cap (swp dk (q+1) (q)) ((wr.setCell ⟨blk,q+1,none⟩ (.string dk[q]!)).setCell ⟨blk,q,none⟩ (.string dk[q+1]!)).drew):=S1.out.swapped R (q+1) (q) (by omega) (by omega);have laq:wr.drew.cell? ⟨blk,q+1,none⟩=some (.string dk[q+1]!):=S1.out.ld1 (q+1) (by omega);have lbq:wr.drew.cell? ⟨blk,q,none⟩=some (.string dk[q]!):=S1.out.ld1 (q) (by omega);have saq:wr.drew.frozen? ⟨blk,q+1,none⟩=false:=S1.out.fr1 (q+1);have sbq:wr.drew.frozen? ⟨blk,q,none⟩=false:=S1.out.fr1 (q);obtain ⟨u2q,scq⟩:=S1.out.st2 (q+1) (q) (by omega) (.string dk[q]!);have sdq:=S1.out.fr2 (q+1) (q) (.string dk[q]!);generalize dk[q+1]! =cIq at S2 laq;generalize dk[q]! =cJq at S2 lbq scq sdq;clear S1;go_wp2_with fail
        go_big_region_o
        clear laq lbq saq sbq;generalize ((wr.setCell ⟨blk,q+1,none⟩ (.string cJq)).setCell ⟨blk,q,none⟩ (.string cIq)).drew=w3 at S2 ⊢;go_wp2
        go_roundg (q - hi)
        case measure=>omega
        case rel=>
          have HH2:Hid (RotAt q m (m+1) d (swp dk (q+1) q)∧PermIn a b d (swp dk (q+1) q)):=(⟨rot_down HH.out.1 (by omega) (by omega),permIn_trans _ _ _ _ _ HH.out.2 (swp_permIn dk a b (q+1) q (by omega) (by omega) (by omega) (by omega) (by omega))⟩:_∧_);exact ⟨q,swp dk (q+1) q,by go_num,by omega,by omega,Nat.le_refl _,by rw [size_swp];exact hds,S2,HH2⟩
    have hltz:(lo:Int)<(hi:Int):=by omega
    cases hlv:ltOf cf d[m]! d[(lo+hi) / 2]! with
    | true =>
      have eaht:((m:Int)).toNat=m:=by omega
      have paht:(0:Int)≤(m:Int):=by omega
      have baht:(m:Int)<(d.size:Int):=by omega
      have raht:IntKind.i64.wrap ((m:Int))=(m:Int):=by rw [IntKind.wrap_i64];omega
      have echt:(((lo:Int)+(hi:Int)) / 2).toNat=(lo+hi) / 2:=by omega
      have pcht:(0:Int)≤((lo:Int)+(hi:Int)) / 2:=by omega
      have bcht:((lo:Int)+(hi:Int)) / 2<(d.size:Int):=by omega
      have rcht:IntKind.i64.wrap (((lo:Int)+(hi:Int)) / 2)=((lo:Int)+(hi:Int)) / 2:=by rw [IntKind.wrap_i64];omega
      obtain ⟨xht,hxht⟩: ∃x,x=d[m]!:=⟨_,rfl⟩;obtain ⟨yht,hyht⟩: ∃x,x=d[(lo+hi) / 2]!:=⟨_,rfl⟩;have laht: ∀p:BelowBy wr,p.w.cell? ⟨blk,m,none⟩=some (.string d[m]!):=S1.out.ld R (m) (by omega);have lbht: ∀p:BelowBy wr,p.w.cell? ⟨blk,(lo+hi) / 2,none⟩=some (.string d[(lo+hi) / 2]!):=S1.out.ld R ((lo+hi) / 2) (by omega);rw [←hxht] at laht;rw [←hyht] at lbht;have hcht:=fun p:BelowBy wr=>S1.out.cmp R HC.out (by omega) p xht yht
      have hvht:cf xht yht<0:=by rw [hxht,hyht];exact of_decide_eq_true hlv
      have hdht:decide (cf xht yht<0)=true:=decide_eq_true hvht;clear hxht hyht;go_wp2_with fail
      refine wp_region_quiet_below (by assumption) (by kernel_rfl) ?_
      repeat (quiet_step (first|(go_at_fn g;refine Calls.below_of (hcht _))))
      refine wpQuiet_nil ?_;intro _ hw';obtain ⟨p,hw''⟩:=hw';subst hw'';have S2:Aside (SRow w0 blk cap d p.w):=S1.out.below R p.h;clear laht lbht hcht S1;generalize p.w=w2 at S2 ⊢;clear p;go_wp2
      go_roundg ((lo+hi) / 2 - lo)
      case measure=>omega
      case rel=>
        have I2:Hid ((lo=a∨ltOf cf d[m]! d[lo - 1]! =false)∧(((lo+hi) / 2)=m∨ltOf cf d[m]! d[((lo+hi) / 2)]! =true)):=(⟨I.out.1, .inr hlv⟩:_∧_);exact ⟨lo,(lo+hi) / 2,rfl,by rw [show ((lo:Int)+(hi:Int)) / 2=(((lo+hi) / 2:Nat):Int) by omega],by omega,by omega,by omega,Nat.le_refl _,S2,I2⟩
    | false =>
      have eahf:((m:Int)).toNat=m:=by omega
      have pahf:(0:Int)≤(m:Int):=by omega
      have bahf:(m:Int)<(d.size:Int):=by omega
      have rahf:IntKind.i64.wrap ((m:Int))=(m:Int):=by rw [IntKind.wrap_i64];omega
      have echf:(((lo:Int)+(hi:Int)) / 2).toNat=(lo+hi) / 2:=by omega
      have pchf:(0:Int)≤((lo:Int)+(hi:Int)) / 2:=by omega
      have bchf:((lo:Int)+(hi:Int)) / 2<(d.size:Int):=by omega
      have rchf:IntKind.i64.wrap (((lo:Int)+(hi:Int)) / 2)=((lo:Int)+(hi:Int)) / 2:=by rw [IntKind.wrap_i64];omega
      obtain ⟨xhf,hxhf⟩: ∃x,x=d[m]!:=⟨_,rfl⟩;obtain ⟨yhf,hyhf⟩: ∃x,x=d[(lo+hi) / 2]!:=⟨_,rfl⟩;have lahf: ∀p:BelowBy wr,p.w.cell? ⟨blk,m,none⟩=some (.string d[m]!):=S1.out.ld R (m) (by omega);have lbhf: ∀p:BelowBy wr,p.w.cell? ⟨blk,(lo+hi) / 2,none⟩=some (.string d[(lo+hi) / 2]!):=S1.out.ld R ((lo+hi) / 2) (by omega);rw [←hxhf] at lahf;rw [←hyhf] at lbhf;have hchf:=fun p:BelowBy wr=>S1.out.cmp R HC.out (by omega) p xhf yhf
      have hvhf: ¬cf xhf yhf<0:=by rw [hxhf,hyhf];exact of_decide_eq_false hlv
      have hdhf:decide (cf xhf yhf<0)=false:=decide_eq_false hvhf;clear hxhf hyhf;go_wp2_with fail
      refine wp_region_quiet_below (by assumption) (by kernel_rfl) ?_
      repeat (quiet_step (first|(go_at_fn g;refine Calls.below_of (hchf _))))
      refine wpQuiet_nil ?_;intro _ hw';obtain ⟨p,hw''⟩:=hw';subst hw'';have S2:Aside (SRow w0 blk cap d p.w):=S1.out.below R p.h;clear lahf lbhf hchf S1;generalize p.w=w2 at S2 ⊢;clear p;go_wp2
      go_roundg (hi - ((lo+hi) / 2+1))
      case measure=>omega
      case rel=>
        have I2:Hid ((((lo+hi) / 2+1)=a∨ltOf cf d[m]! d[((lo+hi) / 2+1) - 1]! =false)∧(hi=m∨ltOf cf d[m]! d[hi]! =true)):=(⟨.inr hlv,I.out.2⟩:_∧_);exact ⟨(lo+hi) / 2+1,hi,by rw [show ((lo:Int)+(hi:Int)) / 2+1=(((lo+hi) / 2+1:Nat):Int) by omega],rfl,by omega,by omega,by omega,Nat.le_refl _,S2,I2⟩
set_option maxHeartbeats 8000000 in
set_option maxRecDepth 1000000 in
theorem symMerge_bigS {P:Program} (FS:P.funcs[179]?=some Try.f179) (FR:P.funcs[177]?=some Try.f177) (F:P.funcs[171]?=some Try.f171) (L:SortTS P) (cf:ByteArray→ByteArray→Int) (g:Nat) (cb:Array Value) (blk cap:Nat) (d0:Array ByteArray) (w0:World)
    (eg: ∀args w,(callFunc g args).run P w= .ok (.enter g args) w) (hcmp:CmpS P g cb cf w0 blk cap d0.size) (R:blk<w0.heap.size) (hO:SWO (ltOf cf)) (hsz:d0.size<2305843009213693952) (N:Nat) (ih:SymNS P cf g cb blk cap d0 w0 N)
    (a m b:Nat) (d:Array ByteArray) (w:World) (hN:b - a≤N+1) (c1: ¬m=a+1) (c2: ¬b=m+1) (hs:d0.size=d.size) (S:SRow w0 blk cap d w) (ham:a<m) (hmb:m<b) (hb:b≤d.size) (sA:SortedIn (ltOf cf) a m d) (sB:SortedIn (ltOf cf) m b d):SymRS P cf g cb blk cap w0 a m b d w:=by
  unfold SymRS;have mixed:=L.mixed;have t0:=L.t0;have a0:=L.a0;have z0:=L.z0;have v0:=L.v0;have t3:=L.t3;have a3:=L.a3;have z3:=L.z3;have v3:=L.v3;have t4:=L.t4;have a4:=L.a4;have z4:=L.z4;have v4:=L.v4;have t5:=L.t5;have a5:=L.a5;have z5:=L.z5;have v5:=L.v5;have t22:=L.t22;have a22:=L.a22;have z22:=L.z22;have v22:=L.v22;have t25:=L.t25;have a25:=L.a25;have z25:=L.z25;have v25:=L.v25;have tE:=L.tE;have aE:=L.aE;have zE:=L.zE;have vE:=L.vE;have u0:=run_underlying L.t0;have u3:=run_underlying L.t3;have u4:=run_underlying L.t4;have u5:=run_underlying L.t5;have u22:=run_underlying L.t22;have uE:=run_underlying L.tE;have eR: ∀args w,(callFunc 177 args).run P w= .ok (.enter 177 args) w:=enters_of FR (by kernel_rfl) rfl;have eY: ∀args w,(callFunc 171 args).run P w= .ok (.enter 171 args) w:=enters_of F (by kernel_rfl) rfl;have HC:Aside _:=hcmp;have S0:Aside (SRow w0 blk cap d w):=S;have SS:Hid (SortedIn (ltOf cf) a m d∧SortedIn (ltOf cf) m b d):=(⟨sA,sB⟩:_∧_);have IH:Hid _:=ih;clear hcmp S sA sB ih;have c1z:((m:Int) - (a:Int)==1)=false:=by simp;omega
  have c2z:((b:Int) - (m:Int)==1)=false:=by simp;omega
  obtain ⟨mid,hmid⟩: ∃mid:Nat,2*mid≤a+b∧a+b≤2*mid+1:=⟨(a+b) / 2,by omega⟩;have hmz:((a:Int)+(b:Int)) / 2=(mid:Int):=by omega
  obtain ⟨pz,hpz⟩: ∃p:Nat,p+1≤mid+m∧mid+m≤p+1:=⟨mid+m - 1,by omega⟩;have hpq:(mid:Int)+(m:Int) - 1=(pz:Int):=by omega
  go_enter F,Try.ntmps171;have HMZ:Hid _:=hmz;clear hmz;go_upto_region 25 with (fail)
  rw [HMZ.out];go_upto_if 140 with (fail)
  go_cut [20,21] (fun v20 v21 wc=> ∃lo hi:Nat,v20= .int .i64 lo∧v21= .int .i64 hi∧a≤lo∧lo≤hi∧hi≤m∧hi≤mid∧mid+m - lo≤b∧m≤mid+m - hi∧Aside (SRow w0 blk cap d wc)∧Hid (((lo=a∨mid+m - lo=b)∨ltOf cf d[mid+m - lo]! d[lo - 1]! =false)∧((hi=m∨mid+m - hi=m)∨ltOf cf d[mid+m - hi - 1]! d[hi]! =true)))
  case first=>
    as_aux_lemma=>
      by_cases hgt:mid<m
      · have hgz : (mid : Int) < (m : Int) := by omega
        go_wp2
        go_meet
        case rel=>exact ⟨mid+m - b,mid,by rw [show ((mid+m - b:Nat):Int)=(mid:Int)+(m:Int) - (b:Int) by omega],rfl,by omega,by omega,by omega,Nat.le_refl _,by omega,by omega,S0,(⟨.inl (.inr (by omega)), .inl (.inr (by omega))⟩:_∧_)⟩
      have hgz: ¬(mid:Int)<(m:Int):=by omega
      go_wp2
      go_meet
      case rel=>exact ⟨a,m,rfl,rfl,by omega,by omega,Nat.le_refl _,by omega,by omega,by omega,S0,(⟨.inl (.inl rfl), .inl (.inl rfl)⟩:_∧_)⟩
  case rest=>
    clear S0;obtain ⟨lo0,hi0,rfl,rfl,b1,b2,b3,b4,b5,b6,S0,I0⟩:=hcut;go_wp2
    go_loopg [20,21] (b - a) (fun kx s20 s21 wr=> ∃lo hi:Nat,s20= .int .i64 lo∧s21= .int .i64 hi∧lo0≤lo∧lo≤hi∧hi≤hi0∧hi - lo≤kx∧Aside (SRow w0 blk cap d wr)∧Hid (((lo=a∨mid+m - lo=b)∨ltOf cf d[mid+m - lo]! d[lo - 1]! =false)∧((hi=m∨mid+m - hi=m)∨ltOf cf d[mid+m - hi - 1]! d[hi]! =true)))
    case atStart=>exact ⟨lo0,hi0,rfl,rfl,Nat.le_refl _,by omega,Nat.le_refl _,by omega,S0,I0⟩
    case round=>
      clear S0 I0;obtain ⟨lo,hi,rfl,rfl,hml,hlh,hhb,hg,S1,I⟩:=hrel;by_cases hlt:lo<hi
      · have hltz : (lo : Int) < (hi : Int) := by omega
        obtain ⟨xq,hxq⟩: ∃x:Nat,x+(lo+hi) / 2≤pz∧pz≤x+(lo+hi) / 2:=⟨pz - (lo+hi) / 2,by omega⟩
        have hxd:(pz:Int) - ((lo:Int)+(hi:Int)) / 2=(xq:Int):=by omega
        cases hlv:ltOf cf d[xq]! d[(lo+hi) / 2]! with
        | true =>
          have eaht:((xq:Int)).toNat=xq:=by omega
          have paht:(0:Int)≤(xq:Int):=by omega
          have baht:(xq:Int)<(d.size:Int):=by omega
          have raht:IntKind.i64.wrap ((xq:Int))=(xq:Int):=by rw [IntKind.wrap_i64];omega
          have echt:(((lo:Int)+(hi:Int)) / 2).toNat=(lo+hi) / 2:=by omega
          have pcht:(0:Int)≤((lo:Int)+(hi:Int)) / 2:=by omega
          have bcht:((lo:Int)+(hi:Int)) / 2<(d.size:Int):=by omega
          have rcht:IntKind.i64.wrap (((lo:Int)+(hi:Int)) / 2)=((lo:Int)+(hi:Int)) / 2:=by rw [IntKind.wrap_i64];omega
          obtain ⟨xht,hxht⟩: ∃x,x=d[xq]!:=⟨_,rfl⟩;obtain ⟨yht,hyht⟩: ∃x,x=d[(lo+hi) / 2]!:=⟨_,rfl⟩;have laht: ∀p:BelowBy wr,p.w.cell? ⟨blk,xq,none⟩=some (.string d[xq]!):=S1.out.ld R (xq) (by omega);have lbht: ∀p:BelowBy wr,p.w.cell? ⟨blk,(lo+hi) / 2,none⟩=some (.string d[(lo+hi) / 2]!):=S1.out.ld R ((lo+hi) / 2) (by omega);rw [←hxht] at laht;rw [←hyht] at lbht;have hcht:=fun p:BelowBy wr=>S1.out.cmp R HC.out (by omega) p xht yht
          have hvht:cf xht yht<0:=by rw [hxht,hyht];exact of_decide_eq_true hlv
          have hdht:decide (cf xht yht<0)=true:=decide_eq_true hvht;clear hxht hyht;go_wp2_with fail
          refine wp_region_quiet_below (by assumption) (by kernel_rfl) ?_
          repeat (quiet_step (first|(go_at_fn g;refine Calls.below_of (hcht _))))
          refine wpQuiet_nil ?_;intro _ hw';obtain ⟨p,hw''⟩:=hw';subst hw'';have S2:Aside (SRow w0 blk cap d p.w):=S1.out.below R p.h;clear laht lbht hcht S1;generalize p.w=w2 at S2 ⊢;clear p;go_wp2
          go_roundg ((lo+hi) / 2 - lo)
          case measure=>omega
          case rel=>
            have I2:Hid (((lo=a∨mid+m - lo=b)∨ltOf cf d[mid+m - lo]! d[lo - 1]! =false)∧((((lo+hi) / 2)=m∨mid+m - ((lo+hi) / 2)=m)∨ltOf cf d[mid+m - ((lo+hi) / 2) - 1]! d[((lo+hi) / 2)]! =true)):=(⟨I.out.1, .inr (by rw [show mid+m - ((lo+hi) / 2) - 1=xq by omega];exact hlv)⟩:_∧_);exact ⟨lo,(lo+hi) / 2,rfl,by rw [show ((lo:Int)+(hi:Int)) / 2=(((lo+hi) / 2:Nat):Int) by omega],by omega,by omega,by omega,Nat.le_refl _,S2,I2⟩
        | false =>
          have eahf:((xq:Int)).toNat=xq:=by omega
          have pahf:(0:Int)≤(xq:Int):=by omega
          have bahf:(xq:Int)<(d.size:Int):=by omega
          have rahf:IntKind.i64.wrap ((xq:Int))=(xq:Int):=by rw [IntKind.wrap_i64];omega
          have echf:(((lo:Int)+(hi:Int)) / 2).toNat=(lo+hi) / 2:=by omega
          have pchf:(0:Int)≤((lo:Int)+(hi:Int)) / 2:=by omega
          have bchf:((lo:Int)+(hi:Int)) / 2<(d.size:Int):=by omega
          have rchf:IntKind.i64.wrap (((lo:Int)+(hi:Int)) / 2)=((lo:Int)+(hi:Int)) / 2:=by rw [IntKind.wrap_i64];omega
          obtain ⟨xhf,hxhf⟩: ∃x,x=d[xq]!:=⟨_,rfl⟩;obtain ⟨yhf,hyhf⟩: ∃x,x=d[(lo+hi) / 2]!:=⟨_,rfl⟩;have lahf: ∀p:BelowBy wr,p.w.cell? ⟨blk,xq,none⟩=some (.string d[xq]!):=S1.out.ld R (xq) (by omega);have lbhf: ∀p:BelowBy wr,p.w.cell? ⟨blk,(lo+hi) / 2,none⟩=some (.string d[(lo+hi) / 2]!):=S1.out.ld R ((lo+hi) / 2) (by omega);rw [←hxhf] at lahf;rw [←hyhf] at lbhf;have hchf:=fun p:BelowBy wr=>S1.out.cmp R HC.out (by omega) p xhf yhf
          have hvhf: ¬cf xhf yhf<0:=by rw [hxhf,hyhf];exact of_decide_eq_false hlv
          have hdhf:decide (cf xhf yhf<0)=false:=decide_eq_false hvhf;clear hxhf hyhf;go_wp2_with fail
          refine wp_region_quiet_below (by assumption) (by kernel_rfl) ?_
          repeat (quiet_step (first|(go_at_fn g;refine Calls.below_of (hchf _))))
          refine wpQuiet_nil ?_;intro _ hw';obtain ⟨p,hw''⟩:=hw';subst hw'';have S2:Aside (SRow w0 blk cap d p.w):=S1.out.below R p.h;clear lahf lbhf hchf S1;generalize p.w=w2 at S2 ⊢;clear p;go_wp2
          go_roundg (hi - ((lo+hi) / 2+1))
          case measure=>omega
          case rel=>
            have I2:Hid (((((lo+hi) / 2+1)=a∨mid+m - ((lo+hi) / 2+1)=b)∨ltOf cf d[mid+m - ((lo+hi) / 2+1)]! d[((lo+hi) / 2+1) - 1]! =false)∧((hi=m∨mid+m - hi=m)∨ltOf cf d[mid+m - hi - 1]! d[hi]! =true)):=(⟨.inr (by rw [show mid+m - ((lo+hi) / 2+1)=xq by omega];exact hlv),I.out.2⟩:_∧_);exact ⟨(lo+hi) / 2+1,hi,by rw [show ((lo:Int)+(hi:Int)) / 2+1=(((lo+hi) / 2+1:Nat):Int) by omega],rfl,by omega,by omega,by omega,Nat.le_refl _,S2,I2⟩
      obtain rfl:hi=lo:=by omega
      have hltz: ¬(hi:Int)<(hi:Int):=by omega
      obtain ⟨e,he⟩: ∃e:Nat,e+hi≤mid+m∧mid+m≤e+hi:=⟨mid+m - hi,by omega⟩;have hez:(mid:Int)+(m:Int) - (hi:Int)=(e:Int):=by omega
      have IE:Hid (((hi=a∨e=b)∨ltOf cf d[e]! d[hi - 1]! =false)∧((hi=m∨e=m)∨ltOf cf d[e - 1]! d[hi]! =true)):=by rw [show e=mid+m - hi by omega];exact I
      clear I;go_upto_region 39 with (fail)
      go_cut [185] (fun v wc=> ∃q:Bool,v= .bool q∧Hid (q=true↔(hi<m∧m<e))∧Aside (SRow w0 blk cap d wc))
      case first=>
        as_aux_lemma=>
          by_cases hr1:hi<m;rotate_left
          · have hr1z : ¬ (hi : Int) < (m : Int) := by omega
            go_wp2
            go_meet
            case rel=>exact ⟨false,rfl,(show Hid _ from (⟨fun h=>absurd h (by simp),fun h=>absurd h.1 hr1⟩:false=true↔(hi<m∧m<e))),S1⟩
          have hr1z:(hi:Int)<(m:Int):=by omega
          by_cases hr2:m<e
          · have hr2z : (m : Int) < (e : Int) := by omega
            go_wp2
            go_meet
            case rel=>exact ⟨true,rfl,(show Hid _ from (⟨fun _=>⟨hr1,hr2⟩,fun _=>rfl⟩:true=true↔(hi<m∧m<e))),S1⟩
          have hr2z: ¬(m:Int)<(e:Int):=by omega
          go_wp2
          go_meet
          case rel=>exact ⟨false,rfl,(show Hid _ from (⟨fun h=>absurd h (by simp),fun h=>absurd h.2 hr2⟩:false=true↔(hi<m∧m<e))),S1⟩
      case rest=>
      clear S1;obtain ⟨q,rfl,Q,S1⟩:=hcut;go_upto_if 185 with (fail)
      go_cut [] (fun wc=> ∃d1:Array ByteArray,Aside (SRow w0 blk cap d1 wc)∧Hid (Turned_ (ltOf cf) a hi mid e b d d1))
      case first=>
        as_aux_lemma=>
          cases q with
          | true =>
            have hr:=Q.out.1 rfl;have hcall:=rotate_s FS FR L g cb blk cap hi m e d0 d w0 wc R hs S1.out hr.1 hr.2 (by omega) (by omega);clear S1 hr;go_wp2_with (go_at_fn 177;refine hcall.mono ?_;rintro e_ w1 ⟨rfl,d1,S2,X,Y⟩;have S3:Aside (SRow w0 blk cap d1 w1):=S2;have T:Hid (Turned_ (ltOf cf) a hi mid e b d d1):=turned_of hO (permIn_mono d d1 hi e a b (by omega) (by omega) (by omega) Y) X (by omega) (by omega) (by omega) (by omega) (by omega) SS.out.1 SS.out.2 IE.out.1 IE.out.2;clear X Y S2)
            go_meet
            case rel=>exact ⟨d1,S3,T⟩
          | false =>
            have hr: ¬(hi<m∧m<e):=fun h=>by have:=Q.out.2 h;simp at this
            have T:Hid (Turned_ (ltOf cf) a hi mid e b d d):=turned_of hO (permIn_refl _ _ _) (by
              by_cases q:hi=m
              · rw [q];exact rot_left _ _ _
              rw [show e=m by omega];exact rot_right _ _ _) (by omega) (by omega) (by omega) (by omega) (by omega) SS.out.1 SS.out.2 IE.out.1 IE.out.2
            clear hr;go_wp2
            go_meet
            case rel=>exact ⟨d,S1,T⟩
      case rest=>
        clear S1 IE;obtain ⟨d1,S1,T⟩:=hcut;clear Q;have hd1:d1.size=d.size:=T.out.perm.1;go_upto_region 41 with (fail)
        go_cut [199] (fun v wc=> ∃q:Bool,v= .bool q∧Hid (q=true↔(a<hi∧hi<mid))∧Aside (SRow w0 blk cap d1 wc))
        case first=>
          as_aux_lemma=>
            by_cases hr1:a<hi;rotate_left
            · have hr1z : ¬ (a : Int) < (hi : Int) := by omega
              go_wp2
              go_meet
              case rel=>exact ⟨false,rfl,(show Hid _ from (⟨fun h=>absurd h (by simp),fun h=>absurd h.1 hr1⟩:false=true↔(a<hi∧hi<mid))),S1⟩
            have hr1z:(a:Int)<(hi:Int):=by omega
            by_cases hr2:hi<mid
            · have hr2z : (hi : Int) < (mid : Int) := by omega
              go_wp2
              go_meet
              case rel=>exact ⟨true,rfl,(show Hid _ from (⟨fun _=>⟨hr1,hr2⟩,fun _=>rfl⟩:true=true↔(a<hi∧hi<mid))),S1⟩
            have hr2z: ¬(hi:Int)<(mid:Int):=by omega
            go_wp2
            go_meet
            case rel=>exact ⟨false,rfl,(show Hid _ from (⟨fun h=>absurd h (by simp),fun h=>absurd h.2 hr2⟩:false=true↔(a<hi∧hi<mid))),S1⟩
        case rest=>
        clear S1;obtain ⟨q,rfl,Q,S1⟩:=hcut;go_upto_if 199 with (fail)
        go_cut [] (fun wc=> ∃d2:Array ByteArray,Aside (SRow w0 blk cap d2 wc)∧Hid (SortedIn (ltOf cf) a mid d2∧PermIn a mid d1 d2))
        case first=>
          as_aux_lemma=>
            cases q with
            | true =>
              have hr:=Q.out.1 rfl;have hcall:SymRS P cf g cb blk cap w0 a hi mid d1 wc:=IH.out a hi mid d1 wc (by omega) (by omega) S1.out hr.1 hr.2 (by omega) T.out.s1 T.out.s2;unfold SymRS at hcall;rw [hd1] at hcall;clear S1 hr;go_wp2_with (go_at_fn 171;refine hcall.mono ?_;rintro e_ w1 ⟨rfl,d2,S2,X,Y⟩;have S3:Aside (SRow w0 blk cap d2 w1):=S2;have T2:Hid (SortedIn (ltOf cf) a mid d2∧PermIn a mid d1 d2):=(⟨X,Y⟩:_∧_);clear X Y S2)
              go_meet
              case rel=>exact ⟨d2,S3,T2⟩
            | false =>
              have hr: ¬(a<hi∧hi<mid):=fun h=>by have:=Q.out.2 h;simp at this
              have T2:Hid (SortedIn (ltOf cf) a mid d1∧PermIn a mid d1 d1):=(⟨sorted_whole T.out.s1 T.out.s2 hr,permIn_refl _ _ _⟩:_∧_);clear hr;go_wp2
              go_meet
              case rel=>exact ⟨d1,S1,T2⟩
        case rest=>
          clear S1 Q;obtain ⟨d2,S1,T2⟩:=hcut;have hd2:d2.size=d.size:=by rw [T2.out.2.1];exact hd1
          have s3:SortedIn (ltOf cf) mid e d2:=sorted_congr T.out.s3 (fun q h1 _=>T2.out.2.2.1 q (.inr h1));have s4:SortedIn (ltOf cf) e b d2:=sorted_congr T.out.s4 (fun q h1 _=>T2.out.2.2.1 q (.inr (by omega)));have S34:Hid (SortedIn (ltOf cf) mid e d2∧SortedIn (ltOf cf) e b d2):=(⟨s3,s4⟩:_∧_);clear s3 s4
          have fin: ∀d3,SortedIn (ltOf cf) mid b d3→PermIn mid b d2 d3→SortedIn (ltOf cf) a b d3∧PermIn a b d d3:=fun d3 q1 q2=>by
            obtain ⟨z1,z2⟩:=sym_join (by omega) (by omega) (by omega) T.out.x T2.out.2 T2.out.1 q2 q1;exact ⟨z1,permIn_trans _ _ _ _ _ T.out.perm z2⟩
          have FIN:Hid _:=fin;clear fin;by_cases hr:mid<e∧e<b
          · have hr1 : (mid : Int) < (e : Int) := by omega
            have hr2:(e:Int)<(b:Int):=by omega
            have hcall:SymRS P cf g cb blk cap w0 mid e b d2 wc:=IH.out mid e b d2 wc (by omega) (by omega) S1.out hr.1 hr.2 (by omega) S34.out.1 S34.out.2
            unfold SymRS at hcall
            rw [hd2] at hcall
            clear S1
            go_wp2_with (go_at_fn 171;refine hcall.mono ?_;rintro e_ w1 ⟨rfl,d3,S2,X,Y⟩;have S3:Aside (SRow w0 blk cap d3 w1):=S2;have T3:Hid (SortedIn (ltOf cf) mid b d3∧PermIn mid b d2 d3):=(⟨X,Y⟩:_∧_);clear X Y S2)
            go_end0
            exact ⟨rfl,d3,S3.out,FIN.out d3 T3.out.1 T3.out.2⟩
          have T3:Hid (SortedIn (ltOf cf) mid b d2):=sorted_whole S34.out.1 S34.out.2 hr;by_cases hr1:mid<e
          · have hr1z : (mid : Int) < (e : Int) := by omega
            have hr2z: ¬(e:Int)<(b:Int):=by omega
            go_wp2
            go_end0
            exact ⟨rfl,d2,S1.out,FIN.out d2 T3.out (permIn_refl _ _ _)⟩
          have hr1z: ¬(mid:Int)<(e:Int):=by omega
          go_wp2
          go_end0
          exact ⟨rfl,d2,S1.out,FIN.out d2 T3.out (permIn_refl _ _ _)⟩
theorem symMerge_s {P:Program} (FS:P.funcs[179]?=some Try.f179) (FR:P.funcs[177]?=some Try.f177) (F:P.funcs[171]?=some Try.f171) (L:SortTS P) (cf:ByteArray→ByteArray→Int) (g:Nat) (cb:Array Value) (blk cap:Nat) (d0:Array ByteArray) (w0:World)
    (eg: ∀args w,(callFunc g args).run P w= .ok (.enter g args) w) (hcmp:CmpS P g cb cf w0 blk cap d0.size) (R:blk<w0.heap.size) (hO:SWO (ltOf cf)) (hsz:d0.size<2305843009213693952): ∀N,SymNS P cf g cb blk cap d0 w0 N
  |0=>fun a m b d w h1 _ _ h2 h3=>by omega
  | N + 1 => fun a m b d w hN hs S ham hmb hb sA sB => by
    by_cases c1:m=a+1
    · exact symMerge_oneS FS FR F L cf g cb blk cap d0 w0 eg hcmp R hO hsz a m b d w c1 hs S ham hmb hb sA sB
    by_cases c2:b=m+1
    · exact symMerge_lastS FS FR F L cf g cb blk cap d0 w0 eg hcmp R hO hsz a m b d w c1 c2 hs S ham hmb hb sA sB
    exact symMerge_bigS FS FR F L cf g cb blk cap d0 w0 eg hcmp R hO hsz N (symMerge_s FS FR F L cf g cb blk cap d0 w0 eg hcmp R hO hsz N) a m b d w hN c1 c2 hs S ham hmb hb sA sB
def InsNS (P:Program) (cf:ByteArray→ByteArray→Int) (g:Nat) (cb:Array Value) (blk cap:Nat) (d0:Array ByteArray) (w0:World):Prop:=
  ∀ (a b : Nat) (d : Array ByteArray) (w : World), d0.size = d.size → SRow w0 blk cap d w → a ≤ b → b ≤ d.size →
    Calls P 170 #[.slice (some ⟨blk,0,none⟩) d.size cap, .int .i64 a, .int .i64 b, .func (.func g) #[] cb] w fun e w'=>e= .returned (.tuple #[])∧ ∃d',SRow w0 blk cap d' w'∧SortedIn (ltOf cf) a b d'∧PermIn a b d d'
theorem rot_at {m j:Nat} {d d':Array ByteArray} (h:RotAt j m (m+1) d d') (hj:j≤m):d'[j]! =d[m]!∧ ∀c,c<j→d'[c]! =d[c]!:=by
  refine ⟨?_,fun c hc=> ?_⟩
  · rw [h.2, if_pos (by omega)]
    exact get_eq _ (by omega)
  rw [h.2,if_neg (by omega),if_neg (by omega)]
set_option maxHeartbeats 8000000 in
set_option maxRecDepth 1000000 in
theorem ins_s {P:Program} (F:P.funcs[170]?=some Try.f170) (L:SortTS P) (cf:ByteArray→ByteArray→Int) (g:Nat) (cb:Array Value) (blk cap:Nat) (d0:Array ByteArray) (w0:World)
    (eg: ∀args w,(callFunc g args).run P w= .ok (.enter g args) w) (hcmp:CmpS P g cb cf w0 blk cap d0.size) (R:blk<w0.heap.size) (hO:SWO (ltOf cf)) (hsz:d0.size<576460752303423488):InsNS P cf g cb blk cap d0 w0:=by
  intro a b d w hs S hab hb;have mixed:=L.mixed;have t0:=L.t0;have a0:=L.a0;have z0:=L.z0;have v0:=L.v0;have t3:=L.t3;have a3:=L.a3;have z3:=L.z3;have v3:=L.v3;have t4:=L.t4;have a4:=L.a4;have z4:=L.z4;have v4:=L.v4;have t5:=L.t5;have a5:=L.a5;have z5:=L.z5;have v5:=L.v5;have t22:=L.t22;have a22:=L.a22;have z22:=L.z22;have v22:=L.v22;have t25:=L.t25;have a25:=L.a25;have z25:=L.z25;have v25:=L.v25;have tE:=L.tE;have aE:=L.aE;have zE:=L.zE;have vE:=L.vE;have u0:=run_underlying L.t0;have u3:=run_underlying L.t3;have u4:=run_underlying L.t4;have u5:=run_underlying L.t5;have u22:=run_underlying L.t22;have uE:=run_underlying L.tE;have HC:Aside _:=hcmp;have S0:Aside (SRow w0 blk cap d w):=S;clear hcmp S;go_enter F,Try.ntmps170;go_wp2
  go_loopg [8] (b - a) (fun kx s8 wr=> ∃(i:Nat) (dk:Array ByteArray),s8= .int .i64 i∧a<i∧i≤b+1∧b - i≤kx∧dk.size=d.size∧Aside (SRow w0 blk cap dk wr)∧Hid (SortedIn (ltOf cf) a (min i b) dk∧PermIn a b d dk))
  case atStart=>exact ⟨a+1,d,by rw [show ((a+1:Nat):Int)=(a:Int)+1 by omega],by omega,by omega,by omega,rfl,S0,(⟨fun x y h1 h2 h3=>by omega,permIn_refl _ _ _⟩:_∧_)⟩
  case round=>
    clear S0;obtain ⟨i,dk,rfl,hai,hib,hkx,hds,S1,HH⟩:=hrel;by_cases hlt:i<b;rotate_left
    · have hltz : ¬ (i : Int) < (b : Int) := by omega
      go_wp2
      go_end0
      have q:=HH.out.1
      rw [Nat.min_eq_right (by omega)] at q
      exact ⟨rfl,dk,S1.out,q,HH.out.2⟩
    have hltz:(i:Int)<(b:Int):=by omega
    go_wp2
    go_loopg [9] (i - a) (fun kx s9 wr2=> ∃(j:Nat) (dj:Array ByteArray),s9= .int .i64 j∧a≤j∧j≤i∧j - a≤kx∧dj.size=d.size∧Aside (SRow w0 blk cap dj wr2)∧Hid (RotAt j i (i+1) dk dj∧(∀c,j≤c→c<i→ltOf cf dk[i]! dk[c]! =true)∧PermIn a b d dj))
    case atStart=>exact ⟨i,dk,rfl,by omega,Nat.le_refl _,Nat.le_refl _,hds,S1,(⟨rot_left _ _ _,fun c h1 h2=>by omega,HH.out.2⟩:_∧_∧_)⟩
    case round=>
      clear S1;obtain ⟨j,dj,rfl,haj,hji,hkx2,hdj,S1,HJ⟩:=hrel
      have FIN:Hid ((j=a∨ltOf cf dk[i]! dk[j - 1]! =false)→SortedIn (ltOf cf) a (min (i+1) b) dj∧PermIn a b d dj):=fun e=>by
        have hA:=HH.out.1;rw [Nat.min_eq_left (by omega)] at hA;rw [Nat.min_eq_left (by omega)];exact ⟨ins_right_ hO HJ.out.1 haj hji hA (right_le hO hA hji e) HJ.out.2.1,HJ.out.2.2⟩
      by_cases hja:a<j;rotate_left
      · have F2 : Hid (SortedIn (ltOf cf) a (min (i + 1) b) dj ∧ PermIn a b d dj) := FIN.out (.inl (by omega))
        clear FIN HJ HH
        have hjz: ¬(a:Int)<(j:Int):=by omega
        have hjz2:decide ((a:Int)<(j:Int))=false:=decide_eq_false hjz
        go_wp2_with fail
        refine start_ (n:=17) (S:=fun w'=>True) (ds:=[]) (bt_ 17 0) mixed rfl rfl trivial (fun hHeld=> ?_)
        refine pv_ (i:=0) (N:=some 18) (bt_ 17 1) ?_
        refine pv_ (i:=1) (N:=some 19) (bt_ 17 3) ?_
        refine pv_ (i:=2) (N:=some 20) (bt_ 17 7) ?_
        refine pv_ (i:=3) (N:=some 21) (bt_ 17 15) ?_
        refine take_ (i:=4) (N:=some 22) (v:=undef) (a':= ?_) (bt_ 17 31) rfl rfl (by kernel_rfl) (fun _ _ _ h=>h) (Or.inr ⟨by rfl,rfl⟩) hHeld ?_ ?_;rotate_left;(simp only [Act.put,List.setIfInBounds_toArray,List.set_cons_zero,List.set_cons_succ,i64_w,i32_w];rfl)
        refine take_ (i:=5) (N:=some 23) (v:=undef) (a':= ?_) (bt_ 17 63) rfl rfl (by kernel_rfl) (fun _ _ _ h=>h) (Or.inr ⟨by rfl,rfl⟩) hHeld ?_ ?_;rotate_left;(simp only [Act.put,List.setIfInBounds_toArray,List.set_cons_zero,List.set_cons_succ,i64_w,i32_w];rfl)
        refine take_ (i:=6) (N:=some 24) (v:=undef) (a':= ?_) (bt_ 17 127) rfl rfl (by kernel_rfl) (fun _ _ _ h=>h) (Or.inr ⟨by rfl,rfl⟩) hHeld ?_ ?_;rotate_left;(simp only [Act.put,List.setIfInBounds_toArray,List.set_cons_zero,List.set_cons_succ,i64_w,i32_w];rfl)
        refine take_ (i:=7) (N:=some 25) (v:=undef) (a':= ?_) (bt_ 17 255) rfl rfl (by kernel_rfl) (fun _ _ _ h=>h) (Or.inr ⟨by rfl,rfl⟩) hHeld ?_ ?_;rotate_left;(simp only [Act.put,List.setIfInBounds_toArray,List.set_cons_zero,List.set_cons_succ,i64_w,i32_w];rfl)
        refine take_ (i:=8) (N:=some 26) (v:=undef) (a':= ?_) (bt_ 17 511) rfl rfl (by kernel_rfl) (fun _ _ _ h=>h) (Or.inr ⟨by rfl,rfl⟩) hHeld ?_ ?_;rotate_left;(simp only [Act.put,List.setIfInBounds_toArray,List.set_cons_zero,List.set_cons_succ,i64_w,i32_w];rfl)
        refine take_ (i:=9) (N:=some 27) (v:=undef) (a':= ?_) (bt_ 17 1023) rfl rfl (by kernel_rfl) (fun _ _ _ h=>h) (Or.inr ⟨by rfl,rfl⟩) hHeld ?_ ?_;rotate_left;(simp only [Act.put,List.setIfInBounds_toArray,List.set_cons_zero,List.set_cons_succ,i64_w,i32_w];rfl)
        refine take_ (i:=10) (N:=some 28) (v:=undef) (a':= ?_) (bt_ 17 2047) rfl rfl (by kernel_rfl) (fun _ _ _ h=>h) (Or.inr ⟨by rfl,rfl⟩) hHeld ?_ ?_;rotate_left;(simp only [Act.put,List.setIfInBounds_toArray,List.set_cons_zero,List.set_cons_succ,i64_w,i32_w];rfl)
        refine take_ (i:=11) (N:=some 29) (v:=undef) (a':= ?_) (bt_ 17 4095) rfl rfl (by kernel_rfl) (fun _ _ _ h=>h) (Or.inr ⟨by rfl,rfl⟩) hHeld ?_ ?_;rotate_left;(simp only [Act.put,List.setIfInBounds_toArray,List.set_cons_zero,List.set_cons_succ,i64_w,i32_w];rfl)
        refine take_ (i:=12) (N:=some 30) (v:=undef) (a':= ?_) (bt_ 17 8191) rfl rfl (by kernel_rfl) (fun _ _ _ h=>h) (Or.inr ⟨by rfl,rfl⟩) hHeld ?_ ?_;rotate_left;(simp only [Act.put,List.setIfInBounds_toArray,List.set_cons_zero,List.set_cons_succ,i64_w,i32_w];rfl)
        refine take_ (i:=13) (N:=some 31) (v:=undef) (a':= ?_) (bt_ 17 16383) rfl rfl (by kernel_rfl) (fun _ _ _ h=>h) (Or.inr ⟨by rfl,rfl⟩) hHeld ?_ ?_;rotate_left;(simp only [Act.put,List.setIfInBounds_toArray,List.set_cons_zero,List.set_cons_succ,i64_w,i32_w];rfl)
        refine take_ (i:=14) (N:=some 32) (v:=undef) (a':= ?_) (bt_ 17 32767) rfl rfl (by kernel_rfl) (fun _ _ _ h=>h) (Or.inr ⟨by rfl,rfl⟩) hHeld ?_ ?_;rotate_left;(simp only [Act.put,List.setIfInBounds_toArray,List.set_cons_zero,List.set_cons_succ,i64_w,i32_w];rfl)
        refine take_ (i:=15) (N:=some 33) (v:=undef) (a':= ?_) (bt_ 17 65535) rfl rfl (by kernel_rfl) (fun _ _ _ h=>h) (Or.inr ⟨by rfl,rfl⟩) hHeld ?_ ?_;rotate_left;(simp only [Act.put,List.setIfInBounds_toArray,List.set_cons_zero,List.set_cons_succ,i64_w,i32_w];rfl)
        refine pv_ (i:=16) (N:=some 34) (bt_ 17 131071) ?_
        refine done_ (by kernel_rfl) ?_
        have S2:Aside (SRow w0 blk cap dj wr.drew):=S1.out.below R (below_drew (Below.refl _ _))
        clear S1
        generalize wr.drew=w2 at S2 ⊢
        go_wp2
        go_roundg (b - (i+1))
        case measure=>omega
        case rel=>exact ⟨i+1,dj,by rw [show ((i+1:Nat):Int)=(i:Int)+1 by omega],by omega,by omega,Nat.le_refl _,hdj,S2,F2⟩
      obtain ⟨q,rfl⟩: ∃q,j=q+1:=⟨j - 1,by omega⟩;have hjz:(a:Int)<(q:Int)+1:=by omega
      have hjz2:decide ((a:Int)<(q:Int)+1)=true:=decide_eq_true hjz;have r1:=rot_at HJ.out.1 hji;have R1:Hid (dj[q+1]! =dk[i]!∧dj[q]! =dk[q]!):=(⟨r1.1,r1.2 q (by omega)⟩:_∧_);clear r1;have eaq:((q:Int)).toNat=q:=by omega
      have paq:(0:Int)≤(q:Int):=by omega
      have baq:(q:Int)<(d.size:Int):=by omega
      have raq:IntKind.i64.wrap ((q:Int))=(q:Int):=by rw [IntKind.wrap_i64];omega
      have ecq:((q:Int)+1).toNat=q+1:=by omega
      have pcq:(0:Int)≤(q:Int)+1:=by omega
      have bcq:(q:Int)+1<(d.size:Int):=by omega
      have rcq:IntKind.i64.wrap ((q:Int)+1)=(q:Int)+1:=by rw [IntKind.wrap_i64];omega
      obtain ⟨xht,hxht⟩: ∃x,x=dj[q+1]!:=⟨_,rfl⟩;obtain ⟨yht,hyht⟩: ∃x,x=dj[q]!:=⟨_,rfl⟩;have laht: ∀p:BelowBy wr,p.w.cell? ⟨blk,q+1,none⟩=some (.string dj[q+1]!):=S1.out.ld R (q+1) (by omega);have lbht: ∀p:BelowBy wr,p.w.cell? ⟨blk,q,none⟩=some (.string dj[q]!):=S1.out.ld R q (by omega);rw [←hxht] at laht;rw [←hyht] at lbht;have hcht:=fun p:BelowBy wr=>S1.out.cmp R HC.out (by omega) p xht yht
      cases hlv:ltOf cf dj[q+1]! dj[q]! with
      | true =>
        have hvht:cf xht yht<0:=by rw [hxht,hyht];exact of_decide_eq_true hlv
        have hdht:decide (cf xht yht<0)=true:=decide_eq_true hvht;clear hxht hyht;go_wp2_with fail
        refine wp_region_quiet_below (by assumption) (by kernel_rfl) ?_
        repeat (quiet_step (first|(go_at_fn g;refine Calls.below_of (hcht _))))
        refine wpQuiet_nil ?_;intro _ hw';obtain ⟨p,hw''⟩:=hw';subst hw'';have S2:Aside (SRow w0 blk cap dj p.w):=S1.out.below R p.h;clear laht lbht hcht S1;generalize p.w=w2 at S2 ⊢;clear p;go_wp2
        have S3:Aside (SRow w0 blk cap (swp dj (q+1) (q)) (((w2.setCell ⟨blk,q+1,none⟩ (.string dj[q]!)).setCell ⟨blk,q,none⟩ (.string dj[q+1]!)).drew)):=S2.out.swapped R (q+1) (q) (by omega) (by omega);have laq:w2.drew.cell? ⟨blk,q+1,none⟩=some (.string dj[q+1]!):=S2.out.ld1 (q+1) (by omega);have lbq:w2.drew.cell? ⟨blk,q,none⟩=some (.string dj[q]!):=S2.out.ld1 (q) (by omega);have saq:w2.drew.frozen? ⟨blk,q+1,none⟩=false:=S2.out.fr1 (q+1);have sbq:w2.drew.frozen? ⟨blk,q,none⟩=false:=S2.out.fr1 (q);obtain ⟨u2q,scq⟩:=S2.out.st2 (q+1) (q) (by omega) (.string dj[q]!);have sdq:=S2.out.fr2 (q+1) (q) (.string dj[q]!);generalize dj[q+1]! =cIq at S3 laq R1 hlv;generalize dj[q]! =cJq at S3 lbq scq sdq R1 hlv;clear S2;go_wp2_with fail
        go_big_region_o
        clear laq lbq saq sbq scq sdq;generalize ((w2.setCell ⟨blk,q+1,none⟩ (.string cJq)).setCell ⟨blk,q,none⟩ (.string cIq)).drew=w3 at S3 ⊢;go_wp2
        go_roundg (q - a)
        case measure=>omega
        case rel=>
          have HJ2:Hid (RotAt q i (i+1) dk (swp dj (q+1) q)∧(∀c,q≤c→c<i→ltOf cf dk[i]! dk[c]! =true)∧PermIn a b d (swp dj (q+1) q)):=by
            refine (⟨rot_down HJ.out.1 (by omega) (by omega),fun c h1 h2=> ?_,permIn_trans _ _ _ _ _ HJ.out.2.2 (swp_permIn dj a b (q+1) q (by omega) (by omega) (by omega) (by omega) (by omega))⟩:_∧_∧_);by_cases e:c=q;rotate_left
            · exact HJ.out.2.1 c (by omega) h2
            subst e;rw [←R1.out.1,←R1.out.2];exact hlv
          exact ⟨q,swp dj (q+1) q,rfl,by omega,by omega,Nat.le_refl _,by rw [size_swp];exact hdj,S3,HJ2⟩
      | false =>
        have hvht: ¬cf xht yht<0:=by rw [hxht,hyht];exact of_decide_eq_false hlv
        have hdht:decide (cf xht yht<0)=false:=decide_eq_false hvht;clear hxht hyht;go_wp2_with fail
        refine wp_region_quiet_below (by assumption) (by kernel_rfl) ?_
        repeat (quiet_step (first|(go_at_fn g;refine Calls.below_of (hcht _))))
        refine wpQuiet_nil ?_;intro _ hw';obtain ⟨p,hw''⟩:=hw';subst hw'';have S2:Aside (SRow w0 blk cap dj p.w):=S1.out.below R p.h;clear laht lbht hcht S1;generalize p.w=w2 at S2 ⊢;clear p;go_wp2
        go_roundg (b - (i+1))
        case measure=>omega
        case rel=>
          have H2:Hid (SortedIn (ltOf cf) a (min (i+1) b) dj∧PermIn a b d dj):=FIN.out (.inr (by rw [←R1.out.1,show q+1 - 1=q by omega,←R1.out.2];exact hlv));exact ⟨i+1,dj,by rw [show ((i+1:Nat):Int)=(i:Int)+1 by omega],by omega,by omega,Nat.le_refl _,hdj,S2,H2⟩
set_option maxHeartbeats 8000000 in
set_option maxRecDepth 1000000 in
theorem stable_s {P:Program} (FI:P.funcs[170]?=some Try.f170) (FY:P.funcs[171]?=some Try.f171) (F:P.funcs[152]?=some Try.f152) (L:SortTS P) (cf:ByteArray→ByteArray→Int) (g:Nat) (cb:Array Value) (blk cap:Nat) (d0:Array ByteArray) (w0:World)
    (HI:InsNS P cf g cb blk cap d0 w0) (HY: ∀N,SymNS P cf g cb blk cap d0 w0 N) (hsz:d0.size<576460752303423488) (d:Array ByteArray) (w:World) (hs:d0.size=d.size) (S:SRow w0 blk cap d w):
    Calls P 152 #[.slice (some ⟨blk,0,none⟩) d.size cap, .int .i64 d.size, .func (.func g) #[] cb] w fun e w'=>e= .returned (.tuple #[])∧ ∃d',SRow w0 blk cap d' w'∧SortedIn (ltOf cf) 0 d.size d'∧PermIn 0 d.size d d':=by
  have mixed:=L.mixed;have t0:=L.t0;have a0:=L.a0;have z0:=L.z0;have v0:=L.v0;have t3:=L.t3;have a3:=L.a3;have z3:=L.z3;have v3:=L.v3;have t4:=L.t4;have a4:=L.a4;have z4:=L.z4;have v4:=L.v4;have t5:=L.t5;have a5:=L.a5;have z5:=L.z5;have v5:=L.v5;have t22:=L.t22;have a22:=L.a22;have z22:=L.z22;have v22:=L.v22;have t25:=L.t25;have a25:=L.a25;have z25:=L.z25;have v25:=L.v25;have tE:=L.tE;have aE:=L.aE;have zE:=L.zE;have vE:=L.vE;have u0:=run_underlying L.t0;have u3:=run_underlying L.t3;have u4:=run_underlying L.t4;have u5:=run_underlying L.t5;have u22:=run_underlying L.t22;have uE:=run_underlying L.tE;have eI: ∀args w,(callFunc 170 args).run P w= .ok (.enter 170 args) w:=enters_of FI (by kernel_rfl) rfl;have eY: ∀args w,(callFunc 171 args).run P w= .ok (.enter 171 args) w:=enters_of FY (by kernel_rfl) rfl;have S0:Aside (SRow w0 blk cap d w):=S;have HII:Hid _:=HI;have HYY:Hid _:=HY;clear S HI HY;obtain ⟨n,hn⟩: ∃n,n=d.size:=⟨_,rfl⟩;rw [←hn];have HN:Hid (n=d.size):=hn;have hn1:n≤d.size∧d.size≤n:=by omega
  clear hn;go_enter F,Try.ntmps152;go_wp2
  go_loopg [7,8] (n+1) (fun kx s7 s8 wr=> ∃(t a:Nat) (dk:Array ByteArray),s7= .int .i64 a∧s8= .int .i64 ((a:Int)+20)∧a≤n∧n - a≤kx∧dk.size=n∧Aside (SRow w0 blk cap dk wr)∧Hid (a=t*20∧Upto (ltOf cf) 20 n t dk∧PermIn 0 n d dk))
  case atStart=>exact ⟨0,0,d,rfl,rfl,by omega,by omega,HN.out.symm,S0,(⟨by omega,fun c hc=>by omega,permIn_refl _ _ _⟩:_∧_∧_)⟩
  case round=>
    clear S0;obtain ⟨t,a,dk,rfl,rfl,han,hkx,hds,S1,HH⟩:=hrel;have HD:Hid (dk.size=n):=hds;have hd1:dk.size≤n∧n≤dk.size:=by omega
    clear hds;by_cases hlt:a+20≤n
    · have hltz : (a : Int) + 20 ≤ (n : Int) := by omega
      have hcall:=HII.out a (a+20) dk wr (by omega) S1.out (by omega) (by omega)
      rw [show ((a+20:Nat):Int)=(a:Int)+20 by omega,HD.out] at hcall
      clear S1
      go_wp2_with (go_at_fn 170;refine hcall.mono ?_;rintro e_ w1 ⟨rfl,d1,S2,X,Y⟩;have S3:Aside (SRow w0 blk cap d1 w1):=S2;have T:Hid (SortedIn (ltOf cf) a (a+20) d1∧PermIn a (a+20) dk d1):=(⟨X,Y⟩:_∧_);clear X Y S2)
      go_roundg (n - (a+20))
      case measure=>omega
      case rel=>
        have HH2:Hid (a+20=(t+1)*20∧Upto (ltOf cf) 20 n (t+1) d1∧PermIn 0 n d d1):=by
          obtain ⟨q1,q2,q3⟩:=HH.out;have e1:t*20=a:=q1.symm;have e2:min (t*20+20) n=a+20:=by omega
          show _∧_∧_
          exact ⟨by omega,upto_step q2 (by rw [e1,←e1,e2,e1];exact T.out.2) (by rw [e2,e1];exact T.out.1),part_perm q3 T.out.2 hlt (by omega)⟩
        exact ⟨t+1,a+20,d1,by rw [show ((a+20:Nat):Int)=(a:Int)+20 by omega],by rw [show ((a+20:Nat):Int)=(a:Int)+20 by omega],hlt,Nat.le_refl _,by rw [T.out.2.1];exact HD.out,S3,HH2⟩
    have hltz: ¬(a:Int)+20≤(n:Int):=by omega
    have hcall:=HII.out a n dk wr (by omega) S1.out (by omega) (by omega);rw [HD.out] at hcall;clear S1;go_wp2_with (go_at_fn 170;refine hcall.mono ?_;rintro e_ w1 ⟨rfl,d1,S2,X,Y⟩;have S3:Aside (SRow w0 blk cap d1 w1):=S2;have T:Hid (SortedIn (ltOf cf) a n d1∧PermIn a n dk d1):=(⟨X,Y⟩:_∧_);clear X Y S2)
    have HB:Hid (Blocks (ltOf cf) 20 n d1∧PermIn 0 n d d1∧d1.size=n):=by
      obtain ⟨q1,q2,q3⟩:=HH.out;have e1:t*20=a:=q1.symm;have e2:min (t*20+20) n=n:=by omega
      show _∧_∧_
      exact ⟨upto_all (upto_step q2 (by rw [e2,e1];exact T.out.2) (by rw [e2,e1];exact T.out.1)) (by omega),part_perm q3 T.out.2 (Nat.le_refl _) (by omega),by rw [T.out.2.1];exact HD.out⟩
    clear HH T HD hd1 hlt hltz;go_loopg [6] (n+1) (fun kx s6 wr2=> ∃(bs:Nat) (dk:Array ByteArray),s6= .int .i64 bs∧20≤bs∧bs≤2*n+20∧n - bs≤kx∧Aside (SRow w0 blk cap dk wr2)∧Hid (Blocks (ltOf cf) bs n dk∧PermIn 0 n d dk∧dk.size=n))
    case atStart=>exact ⟨20,d1,rfl,by omega,by omega,by omega,S3,HB⟩
    case round=>
      clear S3 HB;obtain ⟨bs,dk,rfl,hbs,hbs2,hkx2,S1,HB⟩:=hrel;by_cases hlt:bs<n;rotate_left
      · have hltz : ¬ (bs : Int) < (n : Int) := by omega
        go_wp2
        go_end0
        exact ⟨rfl,dk,S1.out,blocks_all HB.out.1 (by omega),HB.out.2.1⟩
      have hltz:(bs:Int)<(n:Int):=by omega
      go_wp2
      go_loopg [7,8] (n+1) (fun kx s7 s8 wr3=> ∃(t a:Nat) (dk:Array ByteArray),s7= .int .i64 a∧s8= .int .i64 ((a:Int)+2*(bs:Int))∧a≤n∧n - a≤kx∧Aside (SRow w0 blk cap dk wr3)∧Hid (a=t*(2*bs)∧Mixed (ltOf cf) bs n t dk∧PermIn 0 n d dk∧dk.size=n))
      case atStart=>exact ⟨0,0,dk,rfl,by simp,by omega,by omega,S1,(⟨by omega,mixed_zero HB.out.1,HB.out.2.1,HB.out.2.2⟩:_∧_∧_∧_)⟩
      case round=>
        clear S1 HB;obtain ⟨t,a,dk,rfl,rfl,han,hkx3,S1,HH⟩:=hrel;have hd1:dk.size≤n∧n≤dk.size:=by have:=HH.out.2.2.2;omega
        by_cases hle:a+2*bs≤n
        · have hlez : (a : Int) + 2 * (bs : Int) ≤ (n : Int) := by omega
          have hm:SortedIn (ltOf cf) a (a+bs) dk∧SortedIn (ltOf cf) (a+bs) (a+2*bs) dk:=by
            obtain ⟨q1,q2,_,_⟩:=HH.out;have q:=mixed_at q2;rw [←q1,Nat.min_eq_left (by omega),Nat.min_eq_left (by omega)] at q;exact q
          have hcall:SymRS P cf g cb blk cap w0 a (a+bs) (a+2*bs) dk wr:=HYY.out _ a (a+bs) (a+2*bs) dk wr (Nat.le_refl _) (by omega) S1.out (by omega) (by omega) (by omega) hm.1 hm.2
          unfold SymRS at hcall
          rw [show ((a+bs:Nat):Int)=(a:Int)+(bs:Int) by omega,show ((a+2*bs:Nat):Int)=(a:Int)+2*(bs:Int) by omega,HH.out.2.2.2] at hcall
          clear S1 hm
          go_wp2_with (go_at_fn 171;refine hcall.mono ?_;rintro e_ w1 ⟨rfl,d1,S2,X,Y⟩;have S3:Aside (SRow w0 blk cap d1 w1):=S2;have T:Hid (SortedIn (ltOf cf) a (a+2*bs) d1∧PermIn a (a+2*bs) dk d1):=(⟨X,Y⟩:_∧_);clear X Y S2)
          go_roundg (n - (a+2*bs))
          case measure=>omega
          case rel=>
            have HH2:Hid (a+2*bs=(t+1)*(2*bs)∧Mixed (ltOf cf) bs n (t+1) d1∧PermIn 0 n d d1∧d1.size=n):=by
              obtain ⟨q1,q2,q3,q4⟩:=HH.out;have e2:min (t*(2*bs)+2*bs) n=t*(2*bs)+2*bs:=by omega
              have T1:=T.out;rw [q1] at T1
              show _∧_∧_∧_
              exact ⟨by rw [Nat.add_mul,Nat.one_mul];omega,mixed_step q2 (by rw [e2];exact T1.2) (by rw [e2];exact T1.1),part_perm q3 T.out.2 hle (by omega),by rw [T.out.2.1];exact q4⟩
            exact ⟨t+1,a+2*bs,d1,by rw [show ((a+2*bs:Nat):Int)=(a:Int)+2*(bs:Int) by omega],by rw [show ((a+2*bs:Nat):Int)=(a:Int)+2*(bs:Int) by omega],hle,Nat.le_refl _,S3,HH2⟩
        have hlez: ¬(a:Int)+2*(bs:Int)≤(n:Int):=by omega
        by_cases hlm:a+bs<n;rotate_left
        · have hlmz : ¬ (a : Int) + (bs : Int) < (n : Int) := by omega
          go_wp2
          go_roundg (n - 2*bs)
          case measure=>omega
          case rel=>
            have HB2:Hid (Blocks (ltOf cf) (2*bs) n dk∧PermIn 0 n d dk∧dk.size=n):=(⟨mixed_end HH.out.2.1 (by have:=HH.out.1;omega),HH.out.2.2.1,HH.out.2.2.2⟩:_∧_∧_);exact ⟨2*bs,dk,by rw [show ((2*bs:Nat):Int)=(bs:Int)*2 by omega],by omega,by omega,Nat.le_refl _,S1,HB2⟩
        have hlmz:(a:Int)+(bs:Int)<(n:Int):=by omega
        have hm:SortedIn (ltOf cf) a (a+bs) dk∧SortedIn (ltOf cf) (a+bs) n dk:=by
          obtain ⟨q1,q2,_,_⟩:=HH.out;have q:=mixed_at q2;rw [←q1,Nat.min_eq_left (by omega),Nat.min_eq_right (by omega)] at q;exact q
        have hcall:SymRS P cf g cb blk cap w0 a (a+bs) n dk wr:=HYY.out _ a (a+bs) n dk wr (Nat.le_refl _) (by omega) S1.out (by omega) (by omega) (by omega) hm.1 hm.2;unfold SymRS at hcall;rw [show ((a+bs:Nat):Int)=(a:Int)+(bs:Int) by omega,HH.out.2.2.2] at hcall;clear S1 hm;go_wp2_with (go_at_fn 171;refine hcall.mono ?_;rintro e_ w1 ⟨rfl,d1,S2,X,Y⟩;have S3:Aside (SRow w0 blk cap d1 w1):=S2;have T:Hid (SortedIn (ltOf cf) a n d1∧PermIn a n dk d1):=(⟨X,Y⟩:_∧_);clear X Y S2)
        go_roundg (n - 2*bs)
        case measure=>omega
        case rel=>
          have HB2:Hid (Blocks (ltOf cf) (2*bs) n d1∧PermIn 0 n d d1∧d1.size=n):=by
            obtain ⟨q1,q2,q3,q4⟩:=HH.out;have e2:min (t*(2*bs)+2*bs) n=n:=by omega
            have T1:=T.out;rw [q1] at T1
            show _∧_∧_
            exact ⟨mixed_last (mixed_step q2 (by rw [e2];exact T1.2) (by rw [e2];exact T1.1)) (by omega),part_perm q3 T.out.2 (Nat.le_refl _) (by omega),by rw [T.out.2.1];exact q4⟩
          exact ⟨2*bs,d1,by rw [show ((2*bs:Nat):Int)=(bs:Int)*2 by omega],by omega,by omega,Nat.le_refl _,S3,HB2⟩
end Go.Proofs.Ytahidkjncljkaaa.Print

namespace Go.Proofs.Ytahidkjncljkaaa.Print
open Go.RowKit Go.Proofs.YtahidkjncljkaaaW.PrintWords Go.Proofs.YtahidkjncljkaaaW.PrintLast Go.Proofs.YtahidkjncljkaaaW.PrintMore
def cmpI (x y:Int):Int:=if x<y then -1 else if y<x then 1 else 0
def cmpS (x y:ByteArray):Int:=if lt x y=true then -1 else if lt y x=true then 1 else 0
set_option maxRecDepth 100000 in
theorem isNaNI_calls (x:Int) (w:World):Calls Try.prog 117 #[.int .i64 x] w fun e w'=>e= .returned (.bool false)∧w'=w:=by
 go_enter Try.func117,Try.ntmps117;go_wp2
 go_ret
 exact ⟨by simp,rfl⟩
set_option maxRecDepth 100000 in
theorem isNaNS_calls (x:ByteArray) (w:World):Calls Try.prog 118 #[.string x] w fun e w'=>e= .returned (.bool false)∧w'=w:=by
 go_enter Try.func118,Try.ntmps118;go_wp2
 go_ret
 exact ⟨by simp,rfl⟩
set_option maxHeartbeats 1000000 in
set_option maxRecDepth 100000 in
theorem cmpI_calls (x y:Int) (w:World):Calls Try.prog 81 #[.int .i64 x, .int .i64 y] w fun e w'=>e= .returned (.int .i64 (cmpI x y))∧w'=w:=by
  by_cases h1:x<y
  · go_enter Try.func81, Try.ntmps81
    go_wp2_with (go_at_call 117;refine (isNaNI_calls _ _).mono ?_;rintro e w1 ⟨rfl,rfl⟩)
    go_ret
    exact ⟨by unfold cmpI;rw [if_pos h1];rfl,rfl⟩
  by_cases h2:y<x
  · go_enter Try.func81, Try.ntmps81
    go_wp2_with (go_at_call 117;refine (isNaNI_calls _ _).mono ?_;rintro e w1 ⟨rfl,rfl⟩)
    go_ret
    exact ⟨by unfold cmpI;rw [if_neg (by omega),if_pos (by omega)];rfl,rfl⟩
  go_enter Try.func81,Try.ntmps81;go_wp2_with (go_at_call 117;refine (isNaNI_calls _ _).mono ?_;rintro e w1 ⟨rfl,rfl⟩)
  go_ret
  exact ⟨by unfold cmpI;rw [if_neg (by omega),if_neg (by omega)];rfl,rfl⟩
set_option maxHeartbeats 1000000 in
set_option maxRecDepth 100000 in
theorem cmpS_calls (x y:ByteArray) (w:World):Calls Try.prog 82 #[.string x, .string y] w fun e w'=>e= .returned (.int .i64 (cmpS x y))∧w'=w:=by
  by_cases h1:lt x y=true
  · have g1 : Op.bytesLess x.toList y.toList = true := h1
    go_enter Try.func82,Try.ntmps82
    go_wp2_with (go_at_call 118;refine (isNaNS_calls _ _).mono ?_;rintro e w1 ⟨rfl,rfl⟩)
    go_ret
    exact ⟨by unfold cmpS;rw [if_pos h1];rfl,rfl⟩
  have g1:Op.bytesLess x.toList y.toList=false:=Bool.eq_false_iff.mpr h1;by_cases h2:lt y x=true
  · have g3 : (x.toList == y.toList) = false := beq_eq_false_iff_ne.mpr (fun q => by rw [nm_inj.1 q, lt_irrefl] at h2; cases h2)
    go_enter Try.func82,Try.ntmps82
    go_wp2_with (go_at_call 118;refine (isNaNS_calls _ _).mono ?_;rintro e w1 ⟨rfl,rfl⟩)
    go_ret
    exact ⟨by unfold cmpS;rw [if_neg h1,if_pos h2];rfl,rfl⟩
  have g3:(x.toList==y.toList)=true:=beq_iff_eq.mpr (nm_inj.2 (Classical.byContradiction fun q=>h2 (lt_total (Bool.eq_false_iff.mpr h1) q)));go_enter Try.func82,Try.ntmps82;go_wp2_with (go_at_call 118;refine (isNaNS_calls _ _).mono ?_;rintro e w1 ⟨rfl,rfl⟩)
  go_ret
  exact ⟨by unfold cmpS;rw [if_neg h1,if_neg h2];rfl,rfl⟩
def orI (x y:Int):Int:=if x=0 then y else x
set_option maxHeartbeats 1000000 in
set_option maxRecDepth 100000 in
theorem cmpOr_calls_ (b:Nat) (c:Nat) (x y:Int) (w:World) (h0:w.cell? ⟨b,0,none⟩=some (.int .i64 x)) (h1:w.cell? ⟨b,1,none⟩=some (.int .i64 y)):Calls Try.prog 80 #[.slice (some ⟨b,0,none⟩) 2 c] w fun e w'=>e= .returned (.int .i64 (if x=0 then y else x))∧w'=w:=by
  by_cases e1:x=0;rotate_left
  · have f1 : (x != 0) = true := bne_iff_ne.mpr e1
    go_enter Try.func80,Try.ntmps80
    go_wp2
    refine wp_loop_rounds 1 ?_
    rw [rounds_succ]
    go_wp2
    go_ret
    exact ⟨rfl,rfl⟩
  subst e1;by_cases e2:y=0;rotate_left
  · have f2 : (y != 0) = true := bne_iff_ne.mpr e2
    go_enter Try.func80,Try.ntmps80
    go_wp2
    refine wp_loop_rounds 2 ?_
    rw [rounds_succ]
    go_wp2
    rw [rounds_succ]
    go_wp2
    go_ret
    exact ⟨rfl,rfl⟩
  subst e2;go_enter Try.func80,Try.ntmps80;go_wp2
  refine wp_loop_rounds 3 ?_;rw [rounds_succ];go_wp2
  rw [rounds_succ];go_wp2
  rw [rounds_succ];go_wp2
  go_ret
  exact ⟨rfl,rfl⟩
theorem cmpOr_calls (b:Nat) (c:Nat) (x y:Int) (w:World) (h0:w.cell? ⟨b,0,none⟩=some (.int .i64 x)) (h1:w.cell? ⟨b,1,none⟩=some (.int .i64 y)):Calls Try.prog 80 #[.slice (some ⟨b,0,none⟩) 2 c] w fun e w'=>e= .returned (.int .i64 (orI x y))∧w'=w:=cmpOr_calls_ b c x y w h0 h1
end Go.Proofs.Ytahidkjncljkaaa.Print

namespace Go.Proofs.Ytahidkjncljkaaa.Print
open Go.RowKit Go.Proofs.YtahidkjncljkaaaW.PrintWords Go.Proofs.YtahidkjncljkaaaW.PrintLast Go.Proofs.YtahidkjncljkaaaW.PrintMore
attribute [local go_sem] max2_int min2_int max_two min_two max_three min_three max_four min_four

set_option maxHeartbeats 8000000 in
set_option maxRecDepth 100000 in
theorem wantMade_calls (A:Option Addr) (c:Nat) (l:List S39) (w:World) (hr:Kd.C k39 w A l.length l) (hc:l.length≤c) (hl:l.length≤1000) (hs:smallW l):
  Calls Try.prog 76 #[.slice A l.length c] w fun e w'=> ∃b mb n,e= .returned (.pointer (some ⟨b,0,none⟩))∧w.heap.size≤b∧w'.heap[b]?=some (.cells #[.slice A l.length c, .map (some mb)] 113 (0,0))∧MapAt w' mb n (fillR l)∧Below w.heap.size w w':=by
 have hu113:=Try.underlying113
 have hu110:=Try.underlying110
 have HR:=Aside0.mk hr
 have HC:=Aside0.mk hc
 have HS:=Aside0.mk hs
 have HB:=am_ (Below.refl w.heap.size w)
 clear hr hc hs
 go_enter Try.func76,Try.ntmps76
 go_wp2_with (first|((with_reducible refine gate_dst (N:=7) rfl ?_);refine bx_ (N:=7) (cs:=#[.slice A l.length c, .map none]) (t:=113) ?_;intro gb7 hg w2 hbox hb;have BK7:=am_ (hbox);have GE7:=am_ ((by rw [hg];exact below_size HB.out:w.heap.size≤gb7));replace HB:=am_ (below_step HB.out hb);have EQ7:=am_ (hg);clear hb hbox hg)|(go_at_call 74;refine (wantFill_calls w _ gb7 A c l none BK7.out GE7.out HB.out HR.out HC.out hl HS.out).mono ?_;rintro e w3 ⟨rfl,mb,n,hbk,hm,hb,_⟩;have BK:=Aside0.mk hbk;have MP:=Aside0.mk hm;have HB3:=Aside0.mk hb;clear hbk hm hb))
 go_ret
 exact ⟨gb7,mb,n,rfl,GE7.out,BK.out,MP.out,HB3.out⟩


end Go.Proofs.Ytahidkjncljkaaa.Print

namespace Go.Proofs.Ytahidkjncljkaaa.Print
open Go.RowKit Go.Proofs.YtahidkjncljkaaaW.PrintWords Go.Proofs.YtahidkjncljkaaaW.PrintLast Go.Proofs.YtahidkjncljkaaaW.PrintMore
def cmpW (f:ByteArray→Int) (x y:ByteArray):Int:=orI (cmpI (f x) (f y)) (cmpS x y)
set_option maxHeartbeats 8000000 in
set_option maxRecDepth 100000 in
theorem wantTop1_calls (w:World) (gd b mb n:Nat) (v0:Value) (f:ByteArray→Int) (hgd:w.heap[gd]?=some (.cells #[.pointer (some ⟨b,0,none⟩)] 108 (0,0))) (hb:w.heap[b]?=some (.cells #[v0, .map (some mb)] 113 (0,0))) (hm:MapAt w mb n f) (x y:S39) (hx:x.f0.size≤maxLen) (hy:y.f0.size≤maxLen):
    Calls Try.prog 79 #[.agg #[.string x.f0, .string x.f1, .int .i64 x.f2.f0, .int .i64 x.f2.f1, .int .i64 x.f2.f2], .agg #[.string y.f0, .string y.f1, .int .i64 y.f2.f0, .int .i64 y.f2.f1, .int .i64 y.f2.f2], .pointer (some ⟨gd,0,none⟩)] w fun e w'=>e= .returned (.int .i64 (cmpW f x.f0 y.f0))∧ ∃q os',w'=Sort.grow (w.drewN q) os':=by
  have hu113:=Try.underlying113;have hu39:=Try.underlying39;have HX:=Aside0.mk hx;have HY:=Aside0.mk hy;obtain ⟨wB,hwB⟩: ∃wB,wB=((w.alloc (.cells #[.string x.f0, .string x.f1, .int .i64 x.f2.f0, .int .i64 x.f2.f1, .int .i64 x.f2.f2] 39)).alloc (.cells #[.string y.f0, .string y.f1, .int .i64 y.f2.f0, .int .i64 y.f2.f1, .int .i64 y.f2.f2] 39)).drew:=⟨_,rfl⟩;have hs1:(w.alloc (.cells #[.string x.f0, .string x.f1, .int .i64 x.f2.f0, .int .i64 x.f2.f1, .int .i64 x.f2.f2] 39)).heap.size=w.heap.size+1:=by simp
  have HGD:=am_ (show wB.heap[gd]?=some _ by rw [hwB];exact blk_drew (blk_alloc (blk_alloc hgd _) _));have HBK:=am_ (show wB.heap[b]?=some _ by rw [hwB];exact blk_drew (blk_alloc (blk_alloc hb _) _));have HM:=am_ (show MapAt wB mb n f by rw [hwB];exact ((hm.below (below_alloc (Below.refl _ _) _)).below (below_alloc (Below.refl _ _) _)).kept rfl);have H3:=am_ (show wB.heap[w.heap.size]?=some (.cells #[.string x.f0, .string x.f1, .int .i64 x.f2.f0, .int .i64 x.f2.f1, .int .i64 x.f2.f2] 39 (0,0)) by rw [hwB];exact blk_drew (blk_alloc (blk_new _ _) _));have H4:=am_ (show wB.heap[w.heap.size+1]?=some (.cells #[.string y.f0, .string y.f1, .int .i64 y.f2.f0, .int .i64 y.f2.f1, .int .i64 y.f2.f2] 39 (0,0)) by rw [hwB,←hs1];exact blk_drew (blk_new _ _));have HW:=am_ (show wB=Sort.grow (w.drewN 1) #[.cells #[.string x.f0, .string x.f1, .int .i64 x.f2.f0, .int .i64 x.f2.f1, .int .i64 x.f2.f2] 39, .cells #[.string y.f0, .string y.f1, .int .i64 y.f2.f0, .int .i64 y.f2.f1, .int .i64 y.f2.f2] 39] by rw [hwB,Sort.alloc_eq_grow,Sort.alloc_eq_grow,Sort.grow_grow];rfl);have HWB:=Aside0.mk hwB;clear hgd hb hm hx hy hwB hs1;obtain ⟨g3,hg3⟩: ∃g3,g3=w.heap.size:=⟨_,rfl⟩;obtain ⟨g4,hg4⟩: ∃g4,g4=w.heap.size+1:=⟨_,rfl⟩;rw [←hg3] at H3;rw [←hg4] at H4;go_enter Try.func79,Try.ntmps79;go_upto_region 1 with (fail)
  rw [←hg4,←hg3];clear hg3 hg4;refine start_ (n:=23) (S:=fun w'=>w'.cell? ⟨gd,0,none⟩=some (.pointer (some ⟨b,0,none⟩))∧w'.cell? ⟨b,1,none⟩=some (.map (some mb))∧w'.cell? ⟨g3,0,none⟩=some (.string x.f0)∧w'.cell? ⟨g4,0,none⟩=some (.string y.f0)∧(Instr.lookup 111 (.map (some mb)) (.string x.f0) false).run Try.prog w'= .ok (.int .i64 (f x.f0)) w'∧(Instr.lookup 111 (.map (some mb)) (.string y.f0) false).run Try.prog w'= .ok (.int .i64 (f y.f0)) w') (ds:=[]) (bt_ 23 0) (by kernel_rfl) rfl rfl (by rw [←HWB.out];exact ⟨(blk_cell HGD.out 0).trans rfl,(blk_cell HBK.out 1).trans rfl,(blk_cell H3.out 0).trans rfl,(blk_cell H4.out 0).trans rfl,HM.out.look Try.underlying111 HX.out _ rfl,HM.out.look Try.underlying111 HY.out _ rfl⟩) (fun hHeld=> ?_);rw [←HWB.out] at hHeld ⊢;generalize wB=w9 at HGD HBK HM H3 H4 HW hHeld ⊢;clear HWB;refine tv_ (i:=0) (N:=some 6) (bt_ 23 1) hHeld ?_;refine pv_ (i:=1) (N:=some 7) (bt_ 23 3) ?_;refine pv_ (i:=2) (N:=some 8) (bt_ 23 7) ?_;refine tv_ (i:=3) (N:=some 9) (bt_ 23 15) hHeld ?_;refine pv_ (i:=4) (N:=some 10) (bt_ 23 31) ?_;refine tv_ (i:=5) (N:=some 11) (bt_ 23 63) hHeld ?_;refine tv_ (i:=6) (N:=some 12) (bt_ 23 127) hHeld ?_;refine tv_ (i:=7) (N:=some 13) (bt_ 23 255) hHeld ?_;refine pv_ (i:=8) (N:=some 14) (bt_ 23 511) ?_;refine pv_ (i:=9) (N:=some 15) (bt_ 23 1023) ?_;refine tv_ (i:=10) (N:=some 16) (bt_ 23 2047) hHeld ?_;refine pv_ (i:=11) (N:=some 17) (bt_ 23 4095) ?_;refine tv_ (i:=12) (N:=some 18) (bt_ 23 8191) hHeld ?_
  refine tv_ (i:=13) (N:=some 19) (bt_ 23 16383) hHeld ?_;refine pv_ (i:=15) (N:=some 21) (bt_ 23 49151) ?_;refine tv_ (i:=16) (N:=some 22) (bt_ 23 114687) hHeld ?_;refine pv_ (i:=17) (N:=some 23) (bt_ 23 245759) ?_;refine tv_ (i:=18) (N:=some 24) (bt_ 23 507903) hHeld ?_;refine one_ (i:=14) (N:=some 20) (bt_ 23 524287) rfl rfl (by kernel_rfl) (by decide) (fun K hK=> ?_);refine goes_ Try.func81 (by kernel_rfl) rfl #[.int .i64 (f x.f0), .int .i64 (f y.f0)] (by rfl) rfl rfl (by (try simp only [List.map_toArray,List.map_cons,List.map_nil]);rfl) ?_;refine (cmpI_calls (f x.f0) (f y.f0) _).mono ?_;rintro e wq ⟨rfl,hwq⟩;rw [hwq];clear hwq wq;refine ⟨_,rfl, ?_⟩;refine hK.out _ _ ⟨(blk_cell HGD.out 0).trans rfl,(blk_cell HBK.out 1).trans rfl,(blk_cell H3.out 0).trans rfl,(blk_cell H4.out 0).trans rfl,HM.out.look Try.underlying111 HX.out _ rfl,HM.out.look Try.underlying111 HY.out _ rfl⟩ (fun hHeld=> ?_);clear hK K;refine norm_ (a':= ?_) ?_ ?_;rotate_left
  · show Act.put _ (some 20) _ = _
    simp only [Act.put,List.setIfInBounds_toArray,List.set_cons_zero,List.set_cons_succ,i64_w,i32_w]
    rfl
  refine one_ (i:=19) (N:=some 25) (bt_ 23 1048575) rfl rfl (by kernel_rfl) (by decide) (fun K hK=> ?_);refine goes_ Try.func82 (by kernel_rfl) rfl #[.string x.f0, .string y.f0] (by rfl) rfl rfl (by (try simp only [List.map_toArray,List.map_cons,List.map_nil]);rfl) ?_;refine (cmpS_calls x.f0 y.f0 _).mono ?_;rintro e wq ⟨rfl,hwq⟩;rw [hwq];clear hwq wq;refine ⟨_,rfl, ?_⟩;refine hK.out _ _ ⟨(blk_cell HGD.out 0).trans rfl,(blk_cell HBK.out 1).trans rfl,(blk_cell H3.out 0).trans rfl,(blk_cell H4.out 0).trans rfl,HM.out.look Try.underlying111 HX.out _ rfl,HM.out.look Try.underlying111 HY.out _ rfl⟩ (fun hHeld=> ?_);clear hK K;refine norm_ (a':= ?_) ?_ ?_;rotate_left
  · show Act.put _ (some 25) _ = _
    simp only [Act.put,List.setIfInBounds_toArray,List.set_cons_zero,List.set_cons_succ,i64_w,i32_w]
    rfl
  refine one_ (i:=20) (N:=some 26) (bt_ 23 2097151) rfl rfl (by kernel_rfl) (by decide) (fun K hK=> ?_);refine event_step (by rfl) (v:= .slice (some ⟨w9.heap.size,0,none⟩) 2 2) (w1:=w9.alloc (.cells #[.int .i64 (cmpI (f x.f0) (f y.f0)), .int .i64 (cmpS x.f0 y.f0)] 3)) ?hr ?_;(case hr=>first|(go_simp;done)|(go_simp;rfl));have hn:=blk_new w9 (.cells #[.int .i64 (cmpI (f x.f0) (f y.f0)), .int .i64 (cmpS x.f0 y.f0)] 3 (0,0));have n0_:=am_ (blk_alloc HGD.out (.cells #[.int .i64 (cmpI (f x.f0) (f y.f0)), .int .i64 (cmpS x.f0 y.f0)] 3));have n1_:=am_ (blk_alloc HBK.out (.cells #[.int .i64 (cmpI (f x.f0) (f y.f0)), .int .i64 (cmpS x.f0 y.f0)] 3));have n2_:=am_ (blk_alloc H3.out (.cells #[.int .i64 (cmpI (f x.f0) (f y.f0)), .int .i64 (cmpS x.f0 y.f0)] 3));have n3_:=am_ (blk_alloc H4.out (.cells #[.int .i64 (cmpI (f x.f0) (f y.f0)), .int .i64 (cmpS x.f0 y.f0)] 3));have n4_:=am_ (HM.out.below (below_alloc (Below.refl _ _) (.cells #[.int .i64 (cmpI (f x.f0) (f y.f0)), .int .i64 (cmpS x.f0 y.f0)] 3)));have HN:=Aside0.mk hn;clear hn;obtain ⟨gs,hgs⟩: ∃gs,gs=w9.heap.size:=⟨_,rfl⟩;rw [←hgs] at HN ⊢;obtain ⟨wA,hwA⟩: ∃wA,wA=w9.alloc (.cells #[.int .i64 (cmpI (f x.f0) (f y.f0)), .int .i64 (cmpS x.f0 y.f0)] 3):=⟨_,rfl⟩;rw [←hwA] at HN n0_ n1_ n2_ n3_ n4_ ⊢;clear hgs;have HWA:=Aside0.mk hwA;clear hwA HGD HBK H3 H4 HM;have HGD:=n0_;have HBK:=n1_;have H3:=n2_;have H4:=n3_;have HM:=n4_;clear n0_ n1_ n2_ n3_ n4_
  refine hK.out _ _ ⟨(blk_cell HGD.out 0).trans rfl,(blk_cell HBK.out 1).trans rfl,(blk_cell H3.out 0).trans rfl,(blk_cell H4.out 0).trans rfl,HM.out.look Try.underlying111 HX.out _ rfl,HM.out.look Try.underlying111 HY.out _ rfl⟩ (fun hHeld=> ?_);clear hK K;refine norm_ (a':= ?_) ?_ ?_;rotate_left
  · show Act.put _ (some 26) _ = _
    simp only [Act.put,List.setIfInBounds_toArray,List.set_cons_zero,List.set_cons_succ,i64_w,i32_w]
    rfl
  refine one_ (i:=21) (N:=some 27) (bt_ 23 4194303) rfl rfl (by kernel_rfl) (by decide) (fun K hK=> ?_);refine goes_ Try.func80 (by kernel_rfl) rfl #[.slice (some ⟨gs,0,none⟩) 2 2] (by rfl) rfl rfl (by (try simp only [List.map_toArray,List.map_cons,List.map_nil]);rfl) ?_;refine (cmpOr_calls gs 2 (cmpI (f x.f0) (f y.f0)) (cmpS x.f0 y.f0) wA ((blk_cell HN.out 0).trans rfl) ((blk_cell HN.out 1).trans rfl)).mono ?_;rintro e wq ⟨rfl,hwq⟩;rw [hwq];clear hwq wq;refine ⟨_,rfl, ?_⟩;refine hK.out _ _ ⟨(blk_cell HGD.out 0).trans rfl,(blk_cell HBK.out 1).trans rfl,(blk_cell H3.out 0).trans rfl,(blk_cell H4.out 0).trans rfl,HM.out.look Try.underlying111 HX.out _ rfl,HM.out.look Try.underlying111 HY.out _ rfl⟩ (fun hHeld=> ?_);clear hK K;refine norm_ (a':= ?_) ?_ ?_;rotate_left
  · show Act.put _ (some 27) _ = _
    simp only [Act.put,List.setIfInBounds_toArray,List.set_cons_zero,List.set_cons_succ,i64_w,i32_w]
    rfl
  refine pv_ (i:=22) (N:=some 5) (bt_ 23 8388607) ?_;refine done_ (by kernel_rfl) ?_;go_wp2
  go_ret
  exact ⟨rfl,1,#[.cells #[.string x.f0, .string x.f1, .int .i64 x.f2.f0, .int .i64 x.f2.f1, .int .i64 x.f2.f2] 39, .cells #[.string y.f0, .string y.f1, .int .i64 y.f2.f0, .int .i64 y.f2.f1, .int .i64 y.f2.f2] 39]++#[.cells #[.int .i64 (cmpI (f x.f0) (f y.f0)), .int .i64 (cmpS x.f0 y.f0)] 3],by rw [HWA.out,HW.out,Sort.alloc_eq_grow,Sort.grow_grow]⟩
end Go.Proofs.Ytahidkjncljkaaa.Print

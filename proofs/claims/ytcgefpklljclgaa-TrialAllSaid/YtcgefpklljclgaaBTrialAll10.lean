/- TrialAll: a part -/
import Derived.Laws.Strings
import Derived.Deep.Slices
import Derived.Deep.Fields
import Derived.ChangeSame
import Derived.Test.YtcgefpklljclgaaBTrialAll0
import Derived.Test.YtcgefpklljclgaaBTrialAll1
import Derived.Test.YtcgefpklljclgaaBTrialAll2
import Derived.Test.YtcgefpklljclgaaBTrialAll3
import Derived.Test.YtcgefpklljclgaaBTrialAll4
import Derived.Test.YtcgefpklljclgaaBTrialAll5
import Derived.Test.YtcgefpklljclgaaBTrialAll6
import Derived.Test.YtcgefpklljclgaaBTrialAll7
import Derived.Test.YtcgefpklljclgaaBTrialAll8
import Derived.Test.YtcgefpklljclgaaBTrialAll9
set_option linter.unusedVariables false
set_option linter.unusedSimpArgs false
namespace Go.Proofs.Ytcgefpklljclgaa.Print
open Go.RowKit Go.Proofs.YtcgefpklljclgaaW.PrintWords Go.Proofs.YtcgefpklljclgaaW.PrintLast
abbrev Item:=S31
abbrev Vec:=S27
abbrev zItem:Item:=z31
theorem rd_item (l:List Item) (i:Int):rd_T31 l i=l.getD i.toNat zItem:=rfl
instance baLawful:LawfulBEq ByteArray where
 eq_of_beq {a b} h:=by
  obtain ⟨a⟩:=a
  obtain ⟨b⟩:=b
  have:(a==b)=true:=h
  rw [eq_of_beq this]
 rfl {a}:=by
  obtain ⟨a⟩:=a
  show (a==a)=true
  exact beq_self_eq_true a
theorem nm_inj {a b:ByteArray}:a.toList=b.toList↔a=b:=by
  constructor
  rotate_left
  · rintro rfl;rfl
  intro h
  rw [ByteArray.toList_eq,ByteArray.toList_eq] at h
  exact ByteArray.ext (Array.toList_inj.1 h)
theorem nm_beq (a b:ByteArray):(a.toList==b.toList)=decide (a=b):=by
 rw [Bool.eq_iff_iff,beq_iff_eq,nm_inj,decide_eq_true_iff]
theorem nm_empty {a:ByteArray}:a.toList=([]:List UInt8)↔a=⟨#[]⟩:=by
 rw [←nm_inj];rw [show (ByteArray.mk #[]).toList=[] from by rw [ByteArray.toList_eq]]
theorem Ev.const {α:Type} {g:Option α} {r:α} (h:g=some r):Ev (fun _=>g) r:=⟨0,fun _ _=>h⟩
theorem w64 {n:Int} (h0: -9223372036854775808≤n) (h1:n≤9223372036854775807):wrap64 n=n:=by unfold wrap64;omega
def look (l:List Item) (n:ByteArray):Option Item:=l.find? (fun x=>x.f0=n)
def fnd (l:List Item) (n:ByteArray):Int:=fidx (fun x:Item=>x.f0.toList==n.toList) l 0
theorem fidx_none {α:Type} {p:α→Bool}: ∀{l:List α} {i:Int},(∀x∈l,p x=false)→fidx p l i= -1
  |[],_,_=>rfl
  | x :: l, i, h => by
    unfold fidx
    rw [if_neg (by rw [h x (by simp)];simp)]
    exact fidx_none (fun y hy=>h y (by simp [hy]))
theorem fidx_some {α:Type} {p:α→Bool} (z:α): ∀{l:List α} {i:Int} {x:α},l.find? p=some x→ ∃j:Nat,j<l.length∧fidx p l i=i+j∧l.getD j z=x∧p x=true∧ ∀m,m<j→p (l.getD m z)=false
  |[],_,_,h=>by simp at h
  | y :: l, i, x, h => by
    unfold fidx
    by_cases hy:p y=true
    · rw [if_pos hy]
      simp only [List.find?_cons,hy] at h
      obtain rfl:=Option.some.inj h
      exact ⟨0,by simp,by simp,by simp,hy,fun m hm=>by omega⟩
    rw [if_neg hy]
    have hy':p y=false:=by simpa using hy
    simp only [List.find?_cons,hy'] at h
    obtain ⟨j,hj,h1,h2,h3,h4⟩:=fidx_some z (i:=i+1) h
    refine ⟨j+1,by simp;omega,by rw [h1];omega,by simpa using h2,h3,fun m hm=> ?_⟩
    cases m with
    |zero=>simpa using hy'
    |succ m=>simpa using h4 m (by omega)
theorem look_pred (n:ByteArray):(fun x:Item=>x.f0.toList==n.toList)=(fun x:Item=>decide (x.f0=n)):=by
 funext x;exact nm_beq _ _
theorem look_mem {l:List Item} {n:ByteArray} {x:Item} (h:look l n=some x):x∈l∧x.f0=n:=by
 unfold look at h
 exact ⟨List.mem_of_find?_eq_some h,by simpa using List.find?_some h⟩
theorem look_none {l:List Item} {n:ByteArray}:look l n=none↔ ∀x∈l,x.f0≠n:=by
 unfold look
 simp
theorem fnd_none {l:List Item} {n:ByteArray} (h:look l n=none):fnd l n= -1:=by
 unfold fnd
 refine fidx_none fun x hx=> ?_
 rw [nm_beq]
 simpa using look_none.1 h x hx
theorem fnd_some {l:List Item} {n:ByteArray} {x:Item} (h:look l n=some x): ∃j:Nat,j<l.length∧fnd l n=j∧l.getD j zItem=x∧x.f0=n∧ ∀m,m<j→(l.getD m zItem).f0≠n:=by
 have h':l.find? (fun x:Item=>x.f0.toList==n.toList)=some x:=by rw [look_pred];exact h
 obtain ⟨j,h1,h2,h3,h4,h5⟩:=fidx_some zItem (i:=0) h'
 refine ⟨j,h1,by unfold fnd;rw [h2];omega,h3,by simpa [nm_beq] using h4,fun m hm=> ?_⟩
 simpa [nm_beq] using h5 m hm
theorem fnd_lt (l:List Item) (n:ByteArray):fnd l n<l.length:=by
 cases h:look l n with
 |none=>rw [fnd_none h];omega
 |some x=>obtain ⟨j,h1,h2,_⟩:=fnd_some h;omega
theorem fnd_neg {l:List Item} {n:ByteArray}:fnd l n<0↔look l n=none:=by
 cases h:look l n with
 |none=>rw [fnd_none h];simp
 |some x=>obtain ⟨j,h1,h2,_⟩:=fnd_some h;simp;omega
theorem fnd_ge {l:List Item} {n:ByteArray}:0≤fnd l n↔ ∃x,look l n=some x:=by
 cases h:look l n with
 |none=>rw [fnd_none h];simp
 |some x=>obtain ⟨j,h1,h2,_⟩:=fnd_some h;simp;omega
theorem fnd_rd {l:List Item} {n:ByteArray} {x:Item} (h:look l n=some x):rd_T31 l (fnd l n)=x:=by
 obtain ⟨j,h1,h2,h3,_⟩:=fnd_some h
 rw [rd_item,h2,Int.toNat_natCast];exact h3
theorem tree_Find_eq (l:List Item) (n:ByteArray):tree_Find.f l n=some (fnd l n):=rfl
inductive Chain (l:List Item):ByteArray→List ByteArray→Prop where
 |nil {n:ByteArray}:look l n=none→Chain l n []
 |cons {n:ByteArray} {x:Item} {us:List ByteArray}:look l n=some x→Chain l x.f1 us→Chain l n (n::us)
def upGo (l:List Item):Nat→ByteArray→List ByteArray
  |0,_=> []
  | m + 1, n => match look l n with
    |none=> []
    |some x=>n::upGo l m x.f1
def up (l:List Item) (n:ByteArray):List ByteArray:=upGo l (l.length+1) n
theorem upGo_len (l:List Item): ∀(m:Nat) (n:ByteArray),(upGo l m n).length≤m
  |0,_=>by simp [upGo]
  | m + 1, n => by
    unfold upGo
    cases look l n with
    |none=>simp
    |some x=>have:=upGo_len l m x.f1;simp;omega
theorem up_len (l:List Item) (n:ByteArray):(up l n).length≤l.length+1:=upGo_len l _ n
theorem upGo_none {l:List Item} {n:ByteArray} (h:look l n=none) (m:Nat):upGo l m n=[]:=by
 cases m with
 |zero=>rfl
 |succ m=>unfold upGo;rw [h]
theorem upGo_some {l:List Item} {n:ByteArray} {x:Item} (h:look l n=some x) (m:Nat):upGo l (m+1) n=n::upGo l m x.f1:=by
 rw [upGo.eq_2,h]
theorem Chain.det {l:List Item} {n:ByteArray} {us:List ByteArray} (h:Chain l n us): ∀{vs:List ByteArray},Chain l n vs→us=vs:=by
  induction h with
  | nil h =>
    intro vs k
    cases k with
    |nil _=>rfl
    |cons k _=>rw [h] at k;cases k
  | cons h _ ih =>
    intro vs k
    cases k with
    |nil k=>rw [h] at k;cases k
    | cons k k2 =>
      rw [h] at k
      cases k
      rw [ih k2]
theorem Chain.upGo {l:List Item} {n:ByteArray} {us:List ByteArray} (h:Chain l n us): ∀m,us.length≤m→upGo l m n=us:=by
  induction h with
  |nil h=>intro m _;exact upGo_none h m
  | cons h _ ih =>
    intro m hm
    cases m with
    |zero=>simp at hm
    | succ m =>
      rw [upGo_some h,ih m (by simpa using hm)]
theorem upGo_chain (l:List Item): ∀(m:Nat) (n:ByteArray),(upGo l m n).length<m→Chain l n (upGo l m n)
  |0,_,h=>by simp [upGo] at h
  | m + 1, n, h => by
    cases hl:look l n with
    |none=>rw [upGo_none hl];exact .nil hl
    | some x =>
      rw [upGo_some hl] at h ⊢
      exact .cons hl (upGo_chain l m x.f1 (by simpa using h))
theorem up_chain {l:List Item} {n:ByteArray} (h:(up l n).length≤l.length):Chain l n (up l n):=upGo_chain l _ n (by unfold up at h;omega)
theorem Chain.suffix {l:List Item} {n:ByteArray} {us:List ByteArray} (h:Chain l n us): ∀{m:ByteArray},m∈us→ ∃vs ws,us=ws++vs∧Chain l m vs∧ ∃vt,vs=m::vt:=by
  induction h with
  |nil _=>intro m hm;cases hm
  | @cons n x us h k ih =>
    intro m hm
    rcases List.mem_cons.1 hm with rfl|hm
    · exact ⟨_,[],rfl, .cons h k,_,rfl⟩
    obtain ⟨vs,ws,e,hc,he⟩:=ih hm
    exact ⟨vs,n::ws,by rw [e];rfl,hc,he⟩
theorem Chain.mem_look {l:List Item} {n:ByteArray} {us:List ByteArray} (h:Chain l n us) {m:ByteArray} (hm:m∈us): ∃x,look l m=some x:=by
 obtain ⟨vs,ws,_,hc,vt,rfl⟩:=h.suffix hm
 cases hc with
 |cons h _=>exact ⟨_,h⟩
theorem Chain.nodup {l:List Item} {n:ByteArray} {us:List ByteArray} (h:Chain l n us):us.Nodup:=by
  induction h with
  |nil _=>simp
  | @cons n x us h k ih =>
    rw [List.nodup_cons]
    refine ⟨fun hm=> ?_,ih⟩
    obtain ⟨vs,ws,e,hc,_⟩:=k.suffix hm
    have:=hc.det (.cons h k)
    rw [this] at e
    have:=congrArg List.length e
    simp at this
    omega
theorem Chain.len {l:List Item} {n:ByteArray} {us:List ByteArray} (h:Chain l n us):us.length≤l.length:=by
 have:=h.nodup.length_le_of_subset (l₂:=l.map (·.f0)) (fun m hm=>by
  obtain ⟨x,hx⟩:=h.mem_look hm
  obtain ⟨h1,rfl⟩:=look_mem hx
  exact List.mem_map_of_mem h1)
 simpa using this
theorem Chain.up {l:List Item} {n:ByteArray} {us:List ByteArray} (h:Chain l n us):up l n=us:=h.upGo _ (by have:=h.len;omega)
theorem up_len_iff {l:List Item} {n:ByteArray}:(up l n).length≤l.length↔ ∃us,Chain l n us:=
 ⟨fun h=>⟨_,up_chain h⟩,fun ⟨us,h⟩=>by rw [h.up];exact h.len⟩
end Go.Proofs.Ytcgefpklljclgaa.Print

namespace Go.Proofs.Ytcgefpklljclgaa.Print
open Go.RowKit Go.Proofs.YtcgefpklljclgaaW.PrintWords Go.Proofs.YtcgefpklljclgaaW.PrintLast
open Go.ChangeShapes Go.WideShapes Go.Deep
section
variable {H:Type} {enc:TypeId×Value→H} {w:World} {base:Nat} {spare:Nat→Bool} {held:Bool}
theorem cells_i:Try.prog.cellsOf 3=1:=by kernel_rfl
theorem cells_s:Try.prog.cellsOf 9=1:=by kernel_rfl
theorem cells_v:Try.prog.cellsOf 27=3:=by kernel_rfl
theorem cells_it:Try.prog.cellsOf 31=12:=by kernel_rfl
theorem open_i {fuel:Nat} {c:Value} {x:DataW H×List MemPlace} (h:DataW.trod enc Try.prog w base spare held fuel 3 [c]=some x): ∃n:Int,c= .int .i64 n:=by
 obtain ⟨n,e,_,_⟩:=DataW.trod_int Try.underlying3 h
 exact ⟨n,(List.cons.inj e).1⟩
theorem open_s {fuel:Nat} {c:Value} {x:DataW H×List MemPlace} (h:DataW.trod enc Try.prog w base spare held fuel 9 [c]=some x): ∃s:ByteArray,c= .string s:=by
 obtain ⟨n,e,_,_⟩:=DataW.trod_string Try.underlying9 h
 exact ⟨n,(List.cons.inj e).1⟩
theorem open_vec {fuel:Nat} {cs:List Value} {x:DataW H×List MemPlace} (h:DataW.trod enc Try.prog w base spare held fuel 27 cs=some x): ∃v:Vec,cs=[.int .i64 v.f0, .int .i64 v.f1, .int .i64 v.f2]:=by
 obtain ⟨xs,n,_,hx,hl,hlen,hf⟩:=DataW.trod_struct Try.underlying27 h
 replace hl:cs.length=3:=hl.trans cells_v
 replace hlen:xs.length=3:=hlen
 clear h hx
 obtain ⟨c0,c1,c2,rfl⟩: ∃c0 c1 c2,cs=[c0,c1,c2]:=by
  clear hf
  match cs,hl with
  |[c0,c1,c2],_=>exact ⟨_,_,_,rfl⟩
 obtain ⟨y0,y1,y2,rfl⟩: ∃y0 y1 y2,xs=[y0,y1,y2]:=by
  clear hf
  match xs,hlen with
  |[y0,y1,y2],_=>exact ⟨_,_,_,rfl⟩
 have g0:DataW.trod enc Try.prog w base spare held n 3 (List.take (Try.prog.cellsOf 3) (List.drop 0 [c0,c1,c2]))=some y0:=hf 0 _ rfl
 have g1:DataW.trod enc Try.prog w base spare held n 3 (List.take (Try.prog.cellsOf 3) (List.drop 1 [c0,c1,c2]))=some y1:=hf 1 _ rfl
 have g2:DataW.trod enc Try.prog w base spare held n 3 (List.take (Try.prog.cellsOf 3) (List.drop 2 [c0,c1,c2]))=some y2:=hf 2 _ rfl
 rw [cells_i] at g0 g1 g2
 obtain ⟨n0,rfl⟩:=open_i (c:=c0) g0
 obtain ⟨n1,rfl⟩:=open_i (c:=c1) g1
 obtain ⟨n2,rfl⟩:=open_i (c:=c2) g2
 exact ⟨⟨n0,n1,n2⟩,rfl⟩
theorem open_item {fuel:Nat} {cs:List Value} {x:DataW H×List MemPlace} (h:DataW.trod enc Try.prog w base spare held fuel 31 cs=some x): ∃it:Item,cs=[.string it.f0, .string it.f1, .int .i64 it.f2.f0, .int .i64 it.f2.f1, .int .i64 it.f2.f2, .int .i64 it.f3.f0, .int .i64 it.f3.f1, .int .i64 it.f3.f2, .int .i64 it.f4.f0, .int .i64 it.f4.f1, .int .i64 it.f4.f2, .int .i64 it.f5]:=by
 obtain ⟨xs,n,_,hx,hl,hlen,hf⟩:=DataW.trod_struct Try.underlying31 h
 replace hl:cs.length=12:=hl.trans cells_it
 replace hlen:xs.length=6:=hlen
 clear h hx
 obtain ⟨c0,c1,c2,c3,c4,c5,c6,c7,c8,c9,c10,c11,rfl⟩: ∃c0 c1 c2 c3 c4 c5 c6 c7 c8 c9 c10 c11,cs=[c0,c1,c2,c3,c4,c5,c6,c7,c8,c9,c10,c11]:=by
  clear hf
  match cs,hl with
  |[c0,c1,c2,c3,c4,c5,c6,c7,c8,c9,c10,c11],_=>exact ⟨_,_,_,_,_,_,_,_,_,_,_,_,rfl⟩
 obtain ⟨y0,y1,y2,y3,y4,y5,rfl⟩: ∃y0 y1 y2 y3 y4 y5,xs=[y0,y1,y2,y3,y4,y5]:=by
  clear hf
  match xs,hlen with
  |[y0,y1,y2,y3,y4,y5],_=>exact ⟨_,_,_,_,_,_,rfl⟩
 have g0:DataW.trod enc Try.prog w base spare held n 9 (List.take (Try.prog.cellsOf 9) (List.drop 0 [c0,c1,c2,c3,c4,c5,c6,c7,c8,c9,c10,c11]))=some y0:=hf 0 _ rfl
 have g1:DataW.trod enc Try.prog w base spare held n 9 (List.take (Try.prog.cellsOf 9) (List.drop 1 [c0,c1,c2,c3,c4,c5,c6,c7,c8,c9,c10,c11]))=some y1:=hf 1 _ rfl
 have g2:DataW.trod enc Try.prog w base spare held n 27 (List.take (Try.prog.cellsOf 27) (List.drop 2 [c0,c1,c2,c3,c4,c5,c6,c7,c8,c9,c10,c11]))=some y2:=hf 2 _ rfl
 have g3:DataW.trod enc Try.prog w base spare held n 27 (List.take (Try.prog.cellsOf 27) (List.drop 5 [c0,c1,c2,c3,c4,c5,c6,c7,c8,c9,c10,c11]))=some y3:=hf 3 _ rfl
 have g4:DataW.trod enc Try.prog w base spare held n 27 (List.take (Try.prog.cellsOf 27) (List.drop 8 [c0,c1,c2,c3,c4,c5,c6,c7,c8,c9,c10,c11]))=some y4:=hf 4 _ rfl
 have g5:DataW.trod enc Try.prog w base spare held n 3 (List.take (Try.prog.cellsOf 3) (List.drop 11 [c0,c1,c2,c3,c4,c5,c6,c7,c8,c9,c10,c11]))=some y5:=hf 5 _ rfl
 rw [cells_s] at g0 g1
 rw [cells_v] at g2 g3 g4
 rw [cells_i] at g5
 obtain ⟨n0,rfl⟩:=open_s (c:=c0) g0
 obtain ⟨n1,rfl⟩:=open_s (c:=c1) g1
 obtain ⟨v2,e2⟩:=open_vec (cs:=[c2,c3,c4]) g2
 obtain ⟨v3,e3⟩:=open_vec (cs:=[c5,c6,c7]) g3
 obtain ⟨v4,e4⟩:=open_vec (cs:=[c8,c9,c10]) g4
 obtain ⟨n5,rfl⟩:=open_i (c:=c11) g5
 simp only [List.cons.injEq,and_true] at e2 e3 e4
 obtain ⟨rfl,rfl,rfl⟩:=e2
 obtain ⟨rfl,rfl,rfl⟩:=e3
 obtain ⟨rfl,rfl,rfl⟩:=e4
 exact ⟨⟨n0,n1,v2,v3,v4,n5⟩,rfl⟩
theorem open_items {t:TypeId} (ht:Try.prog.underlying t=some (.slice 31)) {v:Value} {d:DataW H} {p:List MemPlace} {A:Option Addr} {len cap:Nat} (hv:v= .slice A len cap) (h:DataW.Trod enc Try.prog w base spare held t v d p):
    ∃zs:List Item,len=zs.length∧len≤cap∧Kd.C k31 w A zs.length zs:=by
  subst hv
  obtain ⟨fuel,hf⟩:=h
  rcases open_slice ht hf with ⟨e,_⟩|⟨a,len',cap',m,n,D,Pl,e,_,hl,hm,hmm,_,hi⟩
  · simp only [Value.cells, List.cons.injEq, Value.slice.injEq, and_true] at e
    obtain ⟨rfl,rfl,rfl⟩:=e
    exact ⟨[],rfl,Nat.le_refl _,Kd.C_nil _ _⟩
  simp only [Value.cells,List.cons.injEq,Value.slice.injEq,and_true] at e
  obtain ⟨rfl,rfl,rfl⟩:=e
  have hlm:len≤m:=by rw [hmm];split<;>omega
  have key: ∀i,i<len→ ∃it:Item,∀j u,[Value.string it.f0, .string it.f1, .int .i64 it.f2.f0, .int .i64 it.f2.f1, .int .i64 it.f2.f2, .int .i64 it.f3.f0, .int .i64 it.f3.f1, .int .i64 it.f3.f2, .int .i64 it.f4.f0, .int .i64 it.f4.f1, .int .i64 it.f4.f2, .int .i64 it.f5][j]?=some u→w.cell? (a.add (i*12+j))=some u:=by
    intro i hil
    obtain ⟨cs',h1,h2⟩:=hi i (by omega)
    rw [cells_it] at h1
    obtain ⟨_,hcl,hat⟩:=World.cells?_some h1
    obtain ⟨it,rfl⟩:=open_item h2
    refine ⟨it,fun j u hj=> ?_⟩
    have hj12:j<12:=by
      have:=(List.getElem?_eq_some_iff.1 hj).1
      simpa using this
    have:=hat j hj12
    rw [Go.Deep.add_add,hj] at this
    exact this
  have hg: ∃g:Nat→Item,∀i,i<len→ ∀j u,[Value.string (g i).f0, .string (g i).f1, .int .i64 (g i).f2.f0, .int .i64 (g i).f2.f1, .int .i64 (g i).f2.f2, .int .i64 (g i).f3.f0, .int .i64 (g i).f3.f1, .int .i64 (g i).f3.f2, .int .i64 (g i).f4.f0, .int .i64 (g i).f4.f1, .int .i64 (g i).f4.f2, .int .i64 (g i).f5][j]?=some u→w.cell? (a.add (i*12+j))=some u:=by
    refine ⟨fun i=>if q:i<len then Classical.choose (key i q) else zItem,fun i q=> ?_⟩
    have:=Classical.choose_spec (key i q)
    simp only [q,dif_pos]
    exact this
  obtain ⟨g,hg⟩:=hg
  refine ⟨(List.range len).map g,by simp,hl, ?_⟩
  have hml:maxLen=9223372036854775807:=rfl
  refine ⟨rfl,by simp;omega,fun _=>⟨a,rfl,fun j p hj=> ?_⟩⟩
  rw [List.getElem?_map] at hj
  obtain ⟨i,hi1,rfl⟩:=Option.map_eq_some_iff.1 hj
  obtain ⟨hjl,e⟩:=List.getElem?_eq_some_iff.1 hi1
  rw [List.getElem_range] at e
  subst e
  rw [List.length_range] at hjl
  exact ⟨_,rfl,k31_mk w (g j),fun i u hu=>hg j hjl i u hu⟩
theorem open_vec_arg {cs:Array Value} {d:DataW H} {p:List MemPlace} (h:DataW.Trod enc Try.prog w base spare held 27 (.agg cs) d p): ∃v:Vec,cs=#[.int .i64 v.f0, .int .i64 v.f1, .int .i64 v.f2]:=by
 obtain ⟨fuel,hf⟩:=h
 obtain ⟨v,e⟩:=open_vec hf
 exact ⟨v,Array.toList_inj.1 e⟩
end
section
variable {H:Type} {enc:TypeId×Value→H} {w:World} {base:Nat} {spare:Nat→Bool} {held:Bool}
theorem cells_step:Try.prog.cellsOf 58=6:=by kernel_rfl
theorem open_step {fuel:Nat} {cs:List Value} {x:DataW H×List MemPlace} (h:DataW.trod enc Try.prog w base spare held fuel 58 cs=some x): ∃it:S58,cs=[Value.int .i64 it.f0, .string it.f1, .string it.f2, .int .i64 it.f3.f0, .int .i64 it.f3.f1, .int .i64 it.f3.f2]:=by
 obtain ⟨xs,n,_,hx,hl,hlen,hf⟩:=DataW.trod_struct Try.underlying58 h
 replace hl:cs.length=6:=hl.trans cells_step
 replace hlen:xs.length=4:=hlen
 clear h hx
 obtain ⟨c0,c1,c2,c3,c4,c5,rfl⟩: ∃c0 c1 c2 c3 c4 c5,cs=[c0,c1,c2,c3,c4,c5]:=by
  clear hf
  match cs,hl with
  |[c0,c1,c2,c3,c4,c5],_=>exact ⟨_,_,_,_,_,_,rfl⟩
 obtain ⟨y0,y1,y2,y3,rfl⟩: ∃y0 y1 y2 y3,xs=[y0,y1,y2,y3]:=by
  clear hf
  match xs,hlen with
  |[y0,y1,y2,y3],_=>exact ⟨_,_,_,_,rfl⟩
 have g0:DataW.trod enc Try.prog w base spare held n 3 (List.take (Try.prog.cellsOf 3) (List.drop 0 [c0,c1,c2,c3,c4,c5]))=some y0:=hf 0 _ rfl
 have g1:DataW.trod enc Try.prog w base spare held n 9 (List.take (Try.prog.cellsOf 9) (List.drop 1 [c0,c1,c2,c3,c4,c5]))=some y1:=hf 1 _ rfl
 have g2:DataW.trod enc Try.prog w base spare held n 9 (List.take (Try.prog.cellsOf 9) (List.drop 2 [c0,c1,c2,c3,c4,c5]))=some y2:=hf 2 _ rfl
 have g3:DataW.trod enc Try.prog w base spare held n 27 (List.take (Try.prog.cellsOf 27) (List.drop 3 [c0,c1,c2,c3,c4,c5]))=some y3:=hf 3 _ rfl
 rw [cells_s] at g1 g2
 rw [cells_i] at g0
 rw [cells_v] at g3
 obtain ⟨n0,rfl⟩:=open_i (c:=c0) g0
 obtain ⟨n1,rfl⟩:=open_s (c:=c1) g1
 obtain ⟨n2,rfl⟩:=open_s (c:=c2) g2
 obtain ⟨v3,e3⟩:=open_vec (cs:=[c3,c4,c5]) g3
 simp only [List.cons.injEq,and_true] at e3
 obtain ⟨rfl,rfl,rfl⟩:=e3
 exact ⟨⟨n0,n1,n2,v3⟩,rfl⟩
theorem open_steps {t:TypeId} (ht:Try.prog.underlying t=some (.slice 58)) {v:Value} {d:DataW H} {p:List MemPlace} {A:Option Addr} {len cap:Nat} (hv:v= .slice A len cap) (h:DataW.Trod enc Try.prog w base spare held t v d p):
    ∃zs:List S58,len=zs.length∧len≤cap∧Kd.C k58 w A zs.length zs:=by
  subst hv
  obtain ⟨fuel,hf⟩:=h
  rcases open_slice ht hf with ⟨e,_⟩|⟨a,len',cap',m,n,D,Pl,e,_,hl,hm,hmm,_,hi⟩
  · simp only [Value.cells, List.cons.injEq, Value.slice.injEq, and_true] at e
    obtain ⟨rfl,rfl,rfl⟩:=e
    exact ⟨[],rfl,Nat.le_refl _,Kd.C_nil _ _⟩
  simp only [Value.cells,List.cons.injEq,Value.slice.injEq,and_true] at e
  obtain ⟨rfl,rfl,rfl⟩:=e
  have hlm:len≤m:=by rw [hmm];split<;>omega
  have key: ∀i,i<len→ ∃it:S58,∀j u,[Value.int .i64 it.f0, .string it.f1, .string it.f2, .int .i64 it.f3.f0, .int .i64 it.f3.f1, .int .i64 it.f3.f2][j]?=some u→w.cell? (a.add (i*6+j))=some u:=by
    intro i hil
    obtain ⟨cs',h1,h2⟩:=hi i (by omega)
    rw [cells_step] at h1
    obtain ⟨_,hcl,hat⟩:=World.cells?_some h1
    obtain ⟨it,rfl⟩:=open_step h2
    refine ⟨it,fun j u hj=> ?_⟩
    have hj12:j<6:=by
      have:=(List.getElem?_eq_some_iff.1 hj).1
      simpa using this
    have:=hat j hj12
    rw [Go.Deep.add_add,hj] at this
    exact this
  have hg: ∃g:Nat→S58,∀i,i<len→ ∀j u,[Value.int .i64 (g i).f0, .string (g i).f1, .string (g i).f2, .int .i64 (g i).f3.f0, .int .i64 (g i).f3.f1, .int .i64 (g i).f3.f2][j]?=some u→w.cell? (a.add (i*6+j))=some u:=by
    refine ⟨fun i=>if q:i<len then Classical.choose (key i q) else z58,fun i q=> ?_⟩
    have:=Classical.choose_spec (key i q)
    simp only [q,dif_pos]
    exact this
  obtain ⟨g,hg⟩:=hg
  refine ⟨(List.range len).map g,by simp,hl, ?_⟩
  have hml:maxLen=9223372036854775807:=rfl
  refine ⟨rfl,by simp;omega,fun _=>⟨a,rfl,fun j p hj=> ?_⟩⟩
  rw [List.getElem?_map] at hj
  obtain ⟨i,hi1,rfl⟩:=Option.map_eq_some_iff.1 hj
  obtain ⟨hjl,e⟩:=List.getElem?_eq_some_iff.1 hi1
  rw [List.getElem_range] at e
  subst e
  rw [List.length_range] at hjl
  exact ⟨_,rfl,k58_mk w (g j),fun i u hu=>hg j hjl i u hu⟩
end
end Go.Proofs.Ytcgefpklljclgaa.Print

namespace Go.Proofs.Ytcgefpklljclgaa.Print
open Go.RowKit Go.Proofs.YtcgefpklljclgaaW.PrintWords Go.Proofs.YtcgefpklljclgaaW.PrintLast
def lt (a b:ByteArray):Bool:=Op.bytesLess a.toList b.toList
theorem bl_irrefl: ∀a:List UInt8,Op.bytesLess a a=false
 |[]=>rfl
 |x::a=>by unfold Op.bytesLess;simp [bl_irrefl a]
theorem bl_trans: ∀{a b c:List UInt8},Op.bytesLess a b=true→Op.bytesLess b c=true→Op.bytesLess a c=true
  |[],[],_,h,_=>by simp [Op.bytesLess] at h
  |[],_::_,[],_,k=>by simp [Op.bytesLess] at k
  |[],_::_,_::_,_,_=>by simp [Op.bytesLess]
  |_::_,[],_,h,_=>by simp [Op.bytesLess] at h
  |_::_,_::_,[],_,k=>by simp [Op.bytesLess] at k
  | x :: a, y :: b, z :: c, h, k => by
    simp only [Op.bytesLess,Bool.or_eq_true,Bool.and_eq_true,decide_eq_true_eq,beq_iff_eq] at h k ⊢
    rcases h with h|⟨rfl,h⟩
    · rcases k with k | ⟨rfl, k⟩
      · exact .inl (UInt8.lt_trans h k)
      exact .inl h
    rcases k with k|⟨rfl,k⟩
    · exact .inl k
    exact .inr ⟨rfl,bl_trans h k⟩
theorem bl_total: ∀{a b:List UInt8},Op.bytesLess a b=false→a≠b→Op.bytesLess b a=true
  |[],[],_,h=>absurd rfl h
  |[],_::_,h,_=>by simp [Op.bytesLess] at h
  |_::_,[],_,_=>by simp [Op.bytesLess]
  | x :: a, y :: b, h, k => by
    simp only [Op.bytesLess,Bool.or_eq_true,Bool.or_eq_false_iff,Bool.and_eq_false_iff,Bool.and_eq_true,decide_eq_true_eq,decide_eq_false_iff_not,beq_iff_eq,beq_eq_false_iff_ne] at h ⊢
    obtain ⟨h1,h2⟩:=h
    by_cases e:x=y
    · subst e
      rcases h2 with h2|h2
      · exact absurd rfl h2
      exact .inr ⟨rfl,bl_total h2 (fun e=>k (by rw [e]))⟩
    left
    have h3: ¬x.toNat<y.toNat:=by rwa [←UInt8.lt_iff_toNat_lt]
    have h4:x.toNat≠y.toNat:=fun q=>e (UInt8.toNat_inj.1 q)
    rw [UInt8.lt_iff_toNat_lt];omega
theorem lt_irrefl (a:ByteArray):lt a a=false:=bl_irrefl _
theorem lt_trans {a b c:ByteArray} (h:lt a b=true) (k:lt b c=true):lt a c=true:=bl_trans h k
theorem lt_total {a b:ByteArray} (h:lt a b=false) (k:a≠b):lt b a=true:=bl_total h (fun e=>k (nm_inj.1 e))
theorem lt_ne {a b:ByteArray} (h:lt a b=true):a≠b:=by rintro rfl;rw [lt_irrefl] at h;cases h
inductive Comp where|cpu|mem|pods
def Comp.of:Comp→Vec→Int| .cpu,v=>v.f0| .mem,v=>v.f1| .pods,v=>v.f2
theorem vec_ext {a b:Vec} (h: ∀c:Comp,c.of a=c.of b):a=b:=by
 cases a;cases b
 have h0:=h .cpu;have h1:=h .mem;have h2:=h .pods
 simp [Comp.of] at h0 h1 h2
 simp [h0,h1,h2]
def vadd (a b:Vec):Vec:=⟨a.f0+b.f0,a.f1+b.f1,a.f2+b.f2⟩
def vsub (a b:Vec):Vec:=⟨a.f0 - b.f0,a.f1 - b.f1,a.f2 - b.f2⟩
theorem of_vadd (c:Comp) (a b:Vec):c.of (vadd a b)=c.of a+c.of b:=by cases c<;>rfl
theorem of_vsub (c:Comp) (a b:Vec):c.of (vsub a b)=c.of a - c.of b:=by cases c<;>rfl
def MayP (v:Vec):Prop:= ∀c:Comp,0≤c.of v∧c.of v≤1099511627776
def LeP (a b:Vec):Prop:= ∀c:Comp,c.of a≤c.of b
theorem comp_all {p:Comp→Prop}:(∀c,p c)↔p .cpu∧p .mem∧p .pods:=
 ⟨fun h=>⟨h _,h _,h _⟩,fun ⟨a,b,d⟩ c=>by cases c<;>assumption⟩
instance (v:Vec):Decidable (MayP v):=decidable_of_iff _ comp_all.symm
instance (a b:Vec):Decidable (LeP a b):=decidable_of_iff _ comp_all.symm
theorem mayP_iff {a b d:Int}:MayP ⟨a,b,d⟩↔(0≤a∧a≤1099511627776)∧(0≤b∧b≤1099511627776)∧(0≤d∧d≤1099511627776):=comp_all
theorem leP_iff {a b d a' b' d':Int}:LeP ⟨a,b,d⟩ ⟨a',b',d'⟩↔a≤a'∧b≤b'∧d≤d':=comp_all
def sumBy (g:Item→Int) (l:List Item):Int:=(l.map g).sum
theorem sumBy_nil (g:Item→Int):sumBy g []=0:=rfl
theorem sumBy_cons (g:Item→Int) (x:Item) (l:List Item):sumBy g (x::l)=g x+sumBy g l:=by simp [sumBy]
theorem sumBy_append (g:Item→Int) (l m:List Item):sumBy g (l++m)=sumBy g l+sumBy g m:=by simp [sumBy]
theorem sumBy_congr {g h:Item→Int}: ∀{l:List Item},(∀x∈l,g x=h x)→sumBy g l=sumBy h l
 |[],_=>rfl
 |x::l,e=>by rw [sumBy_cons,sumBy_cons,e x (by simp),sumBy_congr (fun y hy=>e y (by simp [hy]))]
theorem sumBy_add (g h:Item→Int): ∀l:List Item,sumBy (fun x=>g x+h x) l=sumBy g l+sumBy h l
 |[]=>rfl
 |x::l=>by rw [sumBy_cons,sumBy_cons,sumBy_cons,sumBy_add g h l];omega
theorem sumBy_sub (g h:Item→Int): ∀l:List Item,sumBy (fun x=>g x - h x) l=sumBy g l - sumBy h l
 |[]=>rfl
 |x::l=>by rw [sumBy_cons,sumBy_cons,sumBy_cons,sumBy_sub g h l];omega
theorem sumBy_map (g:Item→Int) (f:Item→Item): ∀l:List Item,sumBy g (l.map f)=sumBy (fun x=>g (f x)) l
 |[]=>rfl
 |x::l=>by rw [List.map_cons,sumBy_cons,sumBy_cons,sumBy_map g f l]
theorem sumBy_zero {g:Item→Int}: ∀{l:List Item},(∀x∈l,g x=0)→sumBy g l=0
 |[],_=>rfl
 |x::l,e=>by rw [sumBy_cons,e x (by simp),sumBy_zero (fun y hy=>e y (by simp [hy]))];rfl
theorem sumBy_nonneg {g:Item→Int}: ∀{l:List Item},(∀x∈l,0≤g x)→0≤sumBy g l
 |[],_=>by simp [sumBy_nil]
 |x::l,e=>by rw [sumBy_cons];have:=e x (by simp);have:=sumBy_nonneg (l:=l) (fun y hy=>e y (by simp [hy]));omega
theorem sumBy_le {g:Item→Int} {B:Int}: ∀{l:List Item},(∀x∈l,g x≤B)→sumBy g l≤B*l.length
  |[],_=>by simp [sumBy_nil]
  | x :: l, e => by
    rw [sumBy_cons];have:=e x (by simp);have:=sumBy_le (l:=l) (fun y hy=>e y (by simp [hy]))
    simp only [List.length_cons,Int.natCast_succ,Int.mul_add,Int.mul_one];omega
theorem sumBy_one {v:Int} {l:List Item} (hn:(l.map (·.f0)).Nodup) {x:Item} (hx:x∈l):sumBy (fun y=>if y.f0=x.f0 then v else 0) l=v:=by
  induction l with
  |nil=>cases hx
  | cons y l ih =>
    rw [List.map_cons,List.nodup_cons] at hn
    rw [sumBy_cons]
    rcases List.mem_cons.1 hx with rfl|hx
    · rw [if_pos rfl,sumBy_zero (fun z hz=>if_neg (fun e=>hn.1 (by rw [←e];exact List.mem_map_of_mem hz)))];omega
    rw [if_neg (fun e=>hn.1 (by rw [e];exact List.mem_map_of_mem hx)),ih hn.2 hx];omega
def csum (c:Comp) (l:List Item) (n:ByteArray):Int:=sumBy (fun y=>if y.f1=n then c.of y.f4 else 0) l
structure ItemOK (x:Item):Prop where
 name:x.f0≠⟨#[]⟩
 size:x.f0.size≤24
 lim:MayP x.f2
 own:MayP x.f3
 sub:MayP x.f4
 fit:LeP x.f4 x.f2
 ver:1≤x.f5∧x.f5≤9007199254740992
structure RightP (l:List Item):Prop where
 len:l.length≤120
 ok: ∀x∈l,ItemOK x
 sorted:l.Pairwise (fun x y=>lt x.f0 y.f0=true)
 par: ∀x∈l,x.f1=⟨#[]⟩∨ ∃y,look l x.f1=some y
 sum: ∀c:Comp,∀x∈l,c.of x.f4=c.of x.f3+csum c l x.f0
 chain: ∀x∈l,∃us,Chain l x.f0 us
theorem sorted_nodup {l:List Item} (h:l.Pairwise (fun x y=>lt x.f0 y.f0=true)):(l.map (·.f0)).Nodup:=by
 rw [List.Nodup,List.pairwise_map]
 exact h.imp (fun hxy=>lt_ne hxy)
theorem RightP.nodup {l:List Item} (h:RightP l):(l.map (·.f0)).Nodup:=sorted_nodup h.sorted
theorem look_of_mem {l:List Item} (hn:(l.map (·.f0)).Nodup) {x:Item} (hx:x∈l):look l x.f0=some x:=by
  induction l with
  |nil=>cases hx
  | cons y l ih =>
    rw [List.map_cons,List.nodup_cons] at hn
    unfold look
    rw [List.find?_cons]
    rcases List.mem_cons.1 hx with rfl|hx
    · simp
    have:y.f0≠x.f0:=fun e=>hn.1 (by rw [e];exact List.mem_map_of_mem hx)
    simp only [this,decide_false]
    exact ih hn.2 hx
theorem RightP.look {l:List Item} (h:RightP l) {x:Item} (hx:x∈l):look l x.f0=some x:=look_of_mem h.nodup hx
theorem RightP.chainAll {l:List Item} (h:RightP l) (n:ByteArray):Chain l n (up l n):=by
  cases hl:Print.look l n with
  |none=>have c:=Chain.nil hl;rw [c.up];exact c
  | some x =>
    obtain ⟨hx,rfl⟩:=look_mem hl
    obtain ⟨us,c⟩:=h.chain x hx
    rw [c.up];exact c
theorem RightP.eq_of {l:List Item} (h:RightP l) {x y:Item} (hx:x∈l) (hy:y∈l) (e:x.f0=y.f0):x=y:=by
 have h1:=h.look hx
 rw [e,h.look hy] at h1
 exact (Option.some.inj h1).symm
theorem look_map {f:Item→Item} (hf: ∀x,(f x).f0=x.f0) (l:List Item) (n:ByteArray):look (l.map f) n=(look l n).map f:=by
 unfold look
 rw [List.find?_map]
 congr 2
 funext x
 simp [hf]
theorem Chain.map {f:Item→Item} (hf: ∀x,(f x).f0=x.f0) (hp: ∀x,(f x).f1=x.f1) {l:List Item} {n:ByteArray} {us:List ByteArray} (h:Chain l n us):Chain (l.map f) n us:=by
 induction h with
 |nil h=>exact .nil (by rw [look_map hf,h];rfl)
 |@cons n x us h k ih=>exact .cons (x:=f x) (by rw [look_map hf,h];rfl) (by rw [hp];exact ih)
theorem up_self {l:List Item} {n:ByteArray} {x:Item} (h:look l n=some x):n∈up l n:=by
 unfold up
 rw [upGo_some h]
 simp
theorem chain_kids {l:List Item} (hl:RightP l) {n:ByteArray} {us:List ByteArray} (h:Chain l n us) (v:Int) {x:Item} (hx:x∈l):
    sumBy (fun y=>if y.f1=x.f0∧y.f0∈us then v else 0) l=if x.f0∈us∧x.f0≠n then v else 0:=by
  induction h with
  |nil _=>rw [sumBy_zero (fun y _=>by simp)];simp
  | @cons n z us h k ih =>
    obtain ⟨hz,rfl⟩:=look_mem h
    have hnd:=(Chain.cons h k).nodup
    rw [List.nodup_cons] at hnd
    have e:sumBy (fun y=>if y.f1=x.f0∧y.f0∈z.f0::us then v else 0) l=sumBy (fun y=>(if y.f0=z.f0 then (if z.f1=x.f0 then v else 0) else 0)+(if y.f1=x.f0∧y.f0∈us then v else 0)) l:=by
      refine sumBy_congr fun y hy=> ?_
      by_cases e1:y.f0=z.f0
      rotate_left
      · simp [e1]
      have:=hl.eq_of hy hz e1
      subst this
      by_cases e2:y.f1=x.f0<;>simp [e2,hnd.1]
    rw [e,sumBy_add,ih,sumBy_one hl.nodup hz]
    by_cases e2:z.f1=x.f0
    rotate_left
    · by_cases e3 : x.f0 = z.f0
      · simp [e2, e3, hnd.1]
        exact fun q=>absurd (q.trans e3.symm) e2
      have e4:x.f0≠z.f1:=fun q=>e2 q.symm
      simp [e2,e3,e4]
    have hm:x.f0∈us:=by
      rw [e2] at k
      cases k with
      |nil k=>rw [hl.look hx] at k;cases k
      |cons _ _=>simp
    have hne:x.f0≠z.f0:=fun q=>hnd.1 (by rw [←q];exact hm)
    simp [e2,hm,hne]
def admF (us:List ByteArray) (n:ByteArray) (v:Vec) (x:Item):Item:=⟨x.f0,x.f1,x.f2,if x.f0=n then vadd x.f3 v else x.f3,if x.f0∈us then vadd x.f4 v else x.f4,x.f5⟩
def admL (l:List Item) (n:ByteArray) (v:Vec):List Item:=l.map (admF (up l n) n v)
def insL (l:List Item) (it:Item):List Item:=l.takeWhile (fun x=>lt x.f0 it.f0)++it::l.dropWhile (fun x=>lt x.f0 it.f0)
theorem look_ins (a b:List Item) (it:Item) (n:ByteArray) (h:look (a++b) it.f0=none):look (a++it::b) n=if n=it.f0 then some it else look (a++b) n:=by
  unfold look at h ⊢
  rw [List.find?_append] at h ⊢
  rw [List.find?_append,List.find?_cons]
  by_cases e:it.f0=n
  rotate_left
  · have e' : n ≠ it.f0 := fun q => e q.symm
    simp [e,e']
  subst e
  cases ha:a.find? (fun x=>decide (x.f0=it.f0)) with
  |some y=>rw [ha] at h;simp at h
  |none=>simp
theorem insL_eq (l:List Item) (it:Item): ∃a b,l=a++b∧insL l it=a++it::b∧(∀x∈a,lt x.f0 it.f0=true)∧(∀x t,b=x::t→lt x.f0 it.f0=false):=by
  refine ⟨l.takeWhile (fun x=>lt x.f0 it.f0),l.dropWhile (fun x=>lt x.f0 it.f0),(List.takeWhile_append_dropWhile).symm,rfl,fun x hx=> ?_,fun x t e=> ?_⟩
  · exact List.all_eq_true.1 (List.all_takeWhile (p:=fun x:Item=>lt x.f0 it.f0) (l:=l)) x hx
  have:=List.head?_dropWhile_not (fun x:Item=>lt x.f0 it.f0) l
  rw [e] at this
  simpa using this
theorem csum_ins (c:Comp) (a b:List Item) (it:Item) (n:ByteArray):csum c (a++it::b) n=csum c (a++b) n+if it.f1=n then c.of it.f4 else 0:=by
 unfold csum
 rw [sumBy_append,sumBy_append,sumBy_cons];omega
theorem ins_right {l:List Item} (hl:RightP l) {it:Item} (hi:ItemOK it) (h0: ∀c:Comp,c.of it.f3=0∧c.of it.f4=0) (hn:look l it.f0=none)
    (hp:it.f1=⟨#[]⟩∨ ∃y,look l it.f1=some y) (hlen:l.length<120):RightP (insL l it):=by
  obtain ⟨a,b,e,e',ha,hb⟩:=insL_eq l it
  rw [e']
  subst e
  have hlk:=fun n=>look_ins a b it n hn
  have hmem: ∀x,x∈a++it::b↔x=it∨x∈a++b:=fun x=>by simp;constructor<;>(intro h;rcases h with h|h|h<;>simp [h])
  have hnew: ∀m y,look (a++b) m=some y→m≠it.f0:=fun m y h q=>by rw [q,hn] at h;cases h
  have hne:it.f0≠⟨#[]⟩:=hi.name
  have hpar: ∀x∈a++b,x.f1≠it.f0:=fun x hx q=>by
    rcases hl.par x hx with h|⟨y,h⟩
    · exact hne (q.symm.trans h)
    exact hnew _ _ h q
  have hch: ∀{n us},Chain (a++b) n us→n≠it.f0→Chain (a++it::b) n us:=by
    intro n us h
    induction h with
    |nil h=>intro q;exact .nil (by rw [hlk,if_neg q];exact h)
    | @cons n x us h k ih =>
      intro q
      exact .cons (x:=x) (by rw [hlk,if_neg q];exact h) (ih (hpar x (look_mem h).1))
  have hip:it.f1≠it.f0:=by
    rcases hp with h|⟨y,h⟩
    · rw [h];exact fun q=>hne q.symm
    exact hnew _ _ h
  refine ⟨?_, ?_, ?_, ?_, ?_, ?_⟩
  · simp at hlen ⊢;omega
  · intro x hx
    rcases (hmem x).1 hx with rfl|hx
    · exact hi
    exact hl.ok x hx
  · have hs := hl.sorted
    rw [List.pairwise_append] at hs ⊢
    obtain ⟨h1,h2,h3⟩:=hs
    have hbx: ∀y∈b,lt it.f0 y.f0=true:=by
      intro y hy
      cases b with
      |nil=>cases hy
      | cons x t =>
        have hx:lt it.f0 x.f0=true:=lt_total (hb x t rfl) (fun q=>look_none.1 hn x (by simp) q)
        rcases List.mem_cons.1 hy with rfl|hy
        · exact hx
        exact lt_trans hx ((List.pairwise_cons.1 h2).1 y hy)
    refine ⟨h1,List.pairwise_cons.2 ⟨hbx,h2⟩,fun x hx y hy=> ?_⟩
    rcases List.mem_cons.1 hy with rfl|hy
    · exact ha x hx
    exact h3 x hx y hy
  · intro x hx
    rcases (hmem x).1 hx with rfl|hx
    · rcases hp with h | ⟨y, h⟩
      · exact .inl h
      exact .inr ⟨y,by rw [hlk,if_neg hip];exact h⟩
    rcases hl.par x hx with h|⟨y,h⟩
    · exact .inl h
    exact .inr ⟨y,by rw [hlk,if_neg (hpar x hx)];exact h⟩
  · intro c x hx
    rw [csum_ins,(h0 c).2,ite_self,Int.add_zero]
    rcases (hmem x).1 hx with rfl|hx
    rotate_left
    · exact hl.sum c x hx
    rw [(h0 c).1,(h0 c).2]
    unfold csum
    rw [sumBy_zero (fun y hy=>if_neg (hpar y hy))];rfl
  intro x hx
  rcases (hmem x).1 hx with rfl|hx
  · have := hch (hl.chainAll x.f1) hip
    exact ⟨_, .cons (x:=x) (by rw [hlk,if_pos rfl]) this⟩
  obtain ⟨us,h⟩:=hl.chain x hx
  exact ⟨us,hch h (fun q=>look_none.1 hn x hx q)⟩
theorem ite_iff {α:Type} {p q:Prop} [Decidable p] [Decidable q] (h:p↔q) {a b:α}:(if p then a else b)=if q then a else b:=by
  by_cases hp:p
  · rw [if_pos hp,if_pos (h.1 hp)]
  rw [if_neg hp,if_neg (fun k=>hp (h.2 k))]
theorem r10_Le_eq (a b d a' b' d':Int):r10_Le.f a b d a' b' d'=some (decide (LeP ⟨a,b,d⟩ ⟨a',b',d'⟩)):=by
 unfold r10_Le.f
 by_cases h0:a≤a'<;>by_cases h1:b≤b'<;>simp [h0,h1,leP_iff]
theorem r10_unit_eq (a:Int):r10_unit.f a=some (decide (0≤a∧a≤1099511627776)):=by
  unfold r10_unit.f
  by_cases h0:0≤a
  · rw [if_pos (by omega)];simp [h0]
  rw [if_neg (by omega)];simp [h0]
theorem r10_MayVec_eq (a b d:Int):r10_MayVec.f a b d=some (decide (MayP ⟨a,b,d⟩)):=by
 unfold r10_MayVec.f
 simp only [r10_unit_eq,Option.bind_some]
 by_cases h0:0≤a∧a≤1099511627776<;>by_cases h1:0≤b∧b≤1099511627776<;>simp [h0,h1,mayP_iff]
theorem r10_MayName_eq (n:ByteArray):r10_MayName.f n=some (decide (n≠⟨#[]⟩∧n.size≤24)):=by
  unfold r10_MayName.f
  by_cases h:n=⟨#[]⟩
  · rw [if_pos (nm_empty.2 h)];simp [h]
  rw [if_neg (fun q=>h (nm_empty.1 q))];simp [h];omega
theorem r10_copied_eq (l:List Item) (h:l.length<1000000):r10_copied.f l=some l:=by
 unfold r10_copied.f
 simp only [Option.bind_some,List.length_nil,List.nil_append]
 rw [if_pos (by omega)]
theorem r10_Find_l0 (l:List Item) (n:ByteArray) (hl:l.length<1000000): ∀(d i:Nat),l.length - i=d→i≤l.length→
    Ev (fun k=>r10_Find.l0 k l n i) (fidx (fun x:Item=>x.f0.toList==n.toList) (l.drop i) i)
  | 0, i, hd, hi => by
    obtain rfl:i=l.length:=by omega
    refine Ev.step (f:=fun _=>some (-1)) (fun k=> ?_) (by rw [List.drop_length];exact Ev.now _)
    simp only [r10_Find.l0]
    rw [if_neg (by omega)]
  | d + 1, i, hd, hi => by
    have hlt:i<l.length:=by omega
    rw [fidx_drop _ zItem l i hlt]
    have hrd:rd_T31 l (i:Int)=l.getD i zItem:=by rw [rd_item,Int.toNat_natCast]
    by_cases e:(l.getD i zItem).f0.toList=n.toList
    · rw [if_pos (beq_iff_eq.2 e)]
      refine Ev.step (f:=fun _=>some (i:Int)) (fun k=> ?_) (Ev.now _)
      simp only [r10_Find.l0]
      rw [if_pos (by omega),if_pos (by omega),hrd,if_pos e]
    rw [if_neg (fun q=>e (beq_iff_eq.1 q))]
    refine Ev.step (f:=fun k=>r10_Find.l0 k l n ((i+1:Nat):Int)) (fun k=> ?_) (r10_Find_l0 l n hl d (i+1) (by omega) (by omega))
    simp only [r10_Find.l0]
    rw [if_pos (by omega),if_pos (by omega),hrd,if_neg e,w64 (by omega) (by omega)]
    rfl
theorem r10_Find_ev (l:List Item) (n:ByteArray) (hl:l.length<1000000):Ev (fun k=>r10_Find.f k l n) (fnd l n):=r10_Find_l0 l n hl _ 0 rfl (by omega)
theorem r10_Up_l0 (l:List Item) (hl:l.length<1000000): ∀(m:Nat) (n:ByteArray) (out:List ByteArray),out.length+m=l.length+1→
    Ev (fun k=>r10_Up.l0 k l out (fnd l n)) (out++upGo l m n)
  | 0, n, out, hm => by
    rw [upGo.eq_1,List.append_nil]
    refine Ev.step (f:=fun _=>some out) (fun k=> ?_) (Ev.now _)
    simp only [r10_Up.l0]
    by_cases h:0≤fnd l n
    · rw [if_pos h,if_neg (by omega)]
    rw [if_neg h]
  | m + 1, n, out, hm => by
    cases h:look l n with
    | none =>
      rw [upGo_none h,List.append_nil]
      refine Ev.step (f:=fun _=>some out) (fun k=> ?_) (Ev.now _)
      simp only [r10_Up.l0]
      rw [fnd_none h,if_neg (by omega)]
    | some x =>
      rw [upGo_some h]
      have h0:=fnd_ge.2 ⟨x,h⟩
      have h1:=fnd_lt l n
      obtain ⟨hx,hn⟩:=look_mem h
      refine Ev.step (f:=fun k=>(r10_Find.f k l x.f1).bind fun t=>r10_Up.l0 k l (out++ [n]) t) (fun k=> ?_) (Ev.bind (r10_Find_ev l x.f1 hl) ?_)
      · simp only [r10_Up.l0]
        rw [if_pos h0,if_pos (by omega),if_pos h0,if_pos h1,if_pos (by omega),fnd_rd h,hn]
      have:=r10_Up_l0 l hl m x.f1 (out++ [n]) (by simp;omega)
      simpa using this
theorem r10_Up_ev (l:List Item) (n:ByteArray) (hl:l.length<1000000):Ev (fun k=>r10_Up.f k l n) (up l n):=
 Ev.bind (r10_Find_ev l n hl) (by have:=r10_Up_l0 l hl (l.length+1) n [] (by simp);rw [List.nil_append] at this;exact this)
theorem set_at {l:List Item} (hn:(l.map (·.f0)).Nodup) {n:ByteArray} {x:Item} (h:look l n=some x) (y:Item):
    l.set (fnd l n).toNat y=l.map (fun z=>if z.f0=n then y else z):=by
  obtain ⟨j,h1,h2,h3,h4,h5⟩:=fnd_some h
  rw [h2,Int.toNat_natCast]
  have hx:l[j]=x:=by rw [←h3];simp [h1]
  apply List.ext_getElem (by simp)
  intro m hm hm'
  simp only [List.length_set] at hm
  rw [List.getElem_set,List.getElem_map]
  by_cases e:j=m
  · subst e
    rw [if_pos rfl,if_pos (by rw [hx];exact h4)]
  rw [if_neg e,if_neg]
  intro q
  have h6:(l.map (·.f0))[j]'(by simpa using h1)=(l.map (·.f0))[m]'(by simpa using hm):=by simp [hx,h4,q]
  exact e ((List.getElem_inj hn).1 h6)
theorem fnd_map {f:Item→Item} (hf: ∀x,(f x).f0=x.f0) (l:List Item) (n:ByteArray):fnd (l.map f) n=fnd l n:=by
 have: ∀(l:List Item) (i:Int),fidx (fun x:Item=>x.f0.toList==n.toList) (l.map f) i=fidx (fun x:Item=>x.f0.toList==n.toList) l i:=by
  intro l
  induction l with
  |nil=>intro i;rfl
  |cons x l ih=>intro i;simp only [List.map_cons,fidx,hf,ih]
 exact this l 0
def admS (us:List ByteArray) (v:Vec) (x:Item):Item:=⟨x.f0,x.f1,x.f2,x.f3,if x.f0∈us then vadd x.f4 v else x.f4,x.f5⟩
def admR (l:List Item) (n:ByteArray) (v:Vec):List Item×Int:=
 if¬MayP v then ([],1) else if (look l n).isNone=true then ([],2) else if∀x∈l,x.f0∈up l n→LeP (vadd x.f4 v) x.f2 then (admL l n v,0) else ([],12)
theorem vadd_wrap {a b:Vec} (ha:MayP a) (hb:MayP b):(wrap64 (a.f0+b.f0),wrap64 (a.f1+b.f1),wrap64 (a.f2+b.f2))=((vadd a b).f0,(vadd a b).f1,(vadd a b).f2):=by
 have a0:=ha .cpu;have a1:=ha .mem;have a2:=ha .pods
 have b0:=hb .cpu;have b1:=hb .mem;have b2:=hb .pods
 simp only [Comp.of] at a0 a1 a2 b0 b1 b2
 rw [w64 (by omega) (by omega),w64 (by omega) (by omega),w64 (by omega) (by omega)]
 rfl
theorem r10_Add_eq {a b:Vec} (ha:MayP a) (hb:MayP b):r10_Add.f a.f0 a.f1 a.f2 b.f0 b.f1 b.f2=some ((vadd a b).f0,(vadd a b).f1,(vadd a b).f2):=by
 unfold r10_Add.f;rw [vadd_wrap ha hb]
theorem look_admS (us:List ByteArray) (v:Vec) (l:List Item) (n:ByteArray):look (l.map (admS us v)) n=(look l n).map (admS us v):=look_map (f:=admS us v) (fun _=>rfl) l n
theorem drop_cons {us:List ByteArray} {i:Nat} (h:i<us.length):us.drop i=rdOf ByteArray.empty us i::us.drop (i+1):=by
 rw [List.drop_eq_getElem_cons h];simp [rdOf,h]
theorem take_snoc_ {us:List ByteArray} {i:Nat} (h:i<us.length):us.take (i+1)=us.take i++ [rdOf ByteArray.empty us i]:=by
 rw [List.take_succ_eq_append_getElem h];simp [rdOf,h]
theorem fnd_admS (us:List ByteArray) (v:Vec) (l:List Item) (n:ByteArray):fnd (l.map (admS us v)) n=fnd l n:=fnd_map (f:=admS us v) (fun _=>rfl) l n
theorem nodup_admS {us:List ByteArray} {v:Vec} {l:List Item} (h:(l.map (·.f0)).Nodup):((l.map (admS us v)).map (·.f0)).Nodup:=by
 rw [List.map_map];exact h
theorem r10_Admit_l0 {l:List Item} (hl:RightP l) (n:ByteArray) {v:Vec} (hv:MayP v) (hin: ∃x,look l n=some x): ∀(d i:Nat),(up l n).length - i=d→i≤(up l n).length→
    Ev (fun k=>r10_Admit.l0 k n (up l n) (l.map (admS ((up l n).take i) v)) i v.f0 v.f1 v.f2) (if∀x∈l,x.f0∈(up l n).drop i→LeP (vadd x.f4 v) x.f2 then (admL l n v,0) else ([],12))
  | 0, i, hd, hi => by
    obtain rfl:i=(up l n).length:=by omega
    rw [List.drop_length,List.take_length,if_pos (by simp)]
    obtain ⟨x,hx⟩:=hin
    obtain ⟨hm,hxn⟩:=look_mem hx
    have hlk:look (l.map (admS (up l n) v)) n=some (admS (up l n) v x):=by rw [look_admS,hx];rfl
    have h0:0≤fnd l n:=fnd_ge.2 ⟨x,hx⟩
    have h1:fnd l n<l.length:=fnd_lt l n
    obtain ⟨K,hK⟩:=r10_Find_ev (l.map (admS (up l n) v)) n (by rw [List.length_map];have:=hl.len;omega)
    dsimp only at hK
    refine ⟨K+1,fun k hk=> ?_⟩
    obtain ⟨k,rfl⟩: ∃m,k=m+1:=⟨k - 1,by omega⟩
    have hrd:=fnd_rd hlk
    rw [fnd_admS] at hrd
    simp only [r10_Admit.l0]
    rw [if_neg (by omega),hK k (by omega),fnd_admS]
    simp only [Option.bind_some]
    rw [if_pos h0,if_pos (by rw [List.length_map];omega),hrd,r10_Add_eq (a:=(admS (up l n) v x).f3) (hl.ok x hm).own hv]
    simp only [Option.bind_some]
    have hset:=set_at (nodup_admS (us:=up l n) (v:=v) hl.nodup) hlk
    rw [fnd_admS] at hset
    rw [hset,List.map_map]
    congr 2
    unfold admL
    refine List.map_congr_left fun z hz=> ?_
    simp only [Function.comp,admF]
    by_cases e:z.f0=n
    · obtain rfl : z = x := hl.eq_of hz hm (e.trans hxn.symm)
      rw [if_pos (by exact e),if_pos e]
      rfl
    rw [if_neg (by exact e),if_neg e]
    rfl
  | d + 1, i, hd, hi => by
    have hlt:i<(up l n).length:=by omega
    have hc:=hl.chainAll n
    have hnd:=hc.nodup
    rw [drop_cons hlt]
    have hu:rdOf ByteArray.empty (up l n) i∈up l n:=by simp [rdOf,hlt]
    obtain ⟨x,hx⟩:=hc.mem_look hu
    obtain ⟨hm,hxn⟩:=look_mem hx
    have hnot:x.f0 ∉ (up l n).take i:=by
      rw [hxn]
      rw [←List.take_append_drop i (up l n),drop_cons hlt,List.nodup_append] at hnd
      exact fun q=>hnd.2.2 _ q _ (by simp) rfl
    generalize hU:rdOf ByteArray.empty (up l n) i=u at*
    have hlk:look (l.map (admS ((up l n).take i) v)) u=some (admS ((up l n).take i) v x):=by rw [look_admS,hx];rfl
    have hsame:admS ((up l n).take i) v x=x:=by unfold admS;rw [if_neg hnot]
    rw [hsame] at hlk
    have h0:0≤fnd l u:=fnd_ge.2 ⟨x,hx⟩
    have h1:fnd l u<l.length:=fnd_lt l u
    have hrd:=fnd_rd hlk
    have hset:=set_at (nodup_admS (us:=(up l n).take i) (v:=v) hl.nodup) hlk
    rw [fnd_admS] at hrd
    rw [fnd_admS] at hset
    obtain ⟨K,hK⟩:=r10_Find_ev (l.map (admS ((up l n).take i) v)) u (by rw [List.length_map];have:=hl.len;omega)
    obtain ⟨K',hK'⟩:=r10_Admit_l0 hl n hv hin d (i+1) (by omega) (by omega)
    dsimp only at hK hK'
    refine ⟨K+K'+1,fun k hk=> ?_⟩
    obtain ⟨k,rfl⟩: ∃m,k=m+1:=⟨k - 1,by omega⟩
    have hup:(up l n).length≤l.length:=hc.len
    have hlen:=hl.len
    simp only [r10_Admit.l0]
    rw [if_pos (by omega),if_pos (by omega),hU,hK k (by omega),fnd_admS]
    simp only [Option.bind_some]
    rw [if_pos h0,if_pos (by rw [List.length_map];omega),hrd,r10_Add_eq (a:=x.f4) (hl.ok x hm).sub hv]
    simp only [Option.bind_some]
    rw [hset,List.map_map]
    have hnew:(l.map ((fun z:Item=>if z.f0=u then (⟨x.f0,x.f1,⟨x.f2.f0,x.f2.f1,x.f2.f2⟩,⟨x.f3.f0,x.f3.f1,x.f3.f2⟩,⟨(vadd x.f4 v).f0,(vadd x.f4 v).f1,(vadd x.f4 v).f2⟩,x.f5⟩:Item) else z) ∘ admS ((up l n).take i) v))=l.map (admS ((up l n).take (i+1)) v):=by
      refine List.map_congr_left fun z hz=> ?_
      simp only [Function.comp]
      rw [take_snoc_ hlt,hU]
      by_cases e:z.f0=u
      · obtain rfl : z = x := hl.eq_of hz hm (e.trans hxn.symm)
        rw [if_pos (by exact e)]
        unfold admS
        rw [if_pos (by simp [e])]
      rw [if_neg (by exact e)]
      unfold admS
      simp [e]
    rw [hnew]
    have hlk2:look (l.map (admS ((up l n).take (i+1)) v)) u=some (admS ((up l n).take (i+1)) v x):=by rw [look_admS,hx];rfl
    have hrd2:=fnd_rd hlk2
    rw [fnd_admS] at hrd2
    have hx2:admS ((up l n).take (i+1)) v x=⟨x.f0,x.f1,x.f2,x.f3,vadd x.f4 v,x.f5⟩:=by unfold admS;rw [if_pos (by rw [take_snoc_ hlt,hU,hxn];simp)]
    rw [hrd2,hx2,r10_Le_eq]
    simp only [Option.bind_some]
    by_cases hfit:LeP (vadd x.f4 v) x.f2
    rotate_left
    · rw [if_neg (by simpa using hfit), if_neg (fun q => hfit (q x hm (by rw [hxn]; simp)))]
      rfl
    rw [if_pos (by exact decide_eq_true hfit),w64 (by omega) (by omega)]
    have h2:=hK' k (by omega)
    rw [show ((i:Int)+1)=((i+1:Nat):Int) from by omega,h2]
    congr 1
    refine ite_iff ⟨fun q z hz hzm=> ?_,fun q z hz hzm=>q z hz (by simp [hzm])⟩
    rcases List.mem_cons.1 hzm with e|hzm
    · obtain rfl : z = x := hl.eq_of hz hm (e.trans hxn.symm)
      exact hfit
    exact q z hz hzm
theorem r10_Admit_ev {l:List Item} (hl:RightP l) (n:ByteArray) (v:Vec):Ev (fun k=>r10_Admit.f k l n v.f0 v.f1 v.f2) (admR l n v):=by
  have hlen:=hl.len
  refine Ev.bind (r10_Up_ev l n (by omega)) ?_
  have hmv:r10_MayVec.f v.f0 v.f1 v.f2=some (decide (MayP v)):=r10_MayVec_eq _ _ _
  unfold admR
  by_cases hv:MayP v
  rotate_left
  · rw [if_pos hv]
    refine Ev.congr (fun k=> ?_) (Ev.now _)
    rw [hmv]
    simp only [Option.bind_some]
    rw [if_neg (by simpa using hv)]
    rfl
  rw [if_neg (by simpa using hv)]
  cases hx:look l n with
  | none =>
    rw [if_pos (show (none:Option Item).isNone=true from rfl)]
    refine Ev.congr (fun k=> ?_) (Ev.now _)
    rw [hmv]
    simp only [Option.bind_some]
    rw [if_pos (by exact decide_eq_true hv),show up l n=[] from upGo_none hx _]
    rfl
  | some x =>
    rw [if_neg (by simp)]
    have h:=r10_Admit_l0 hl n hv ⟨x,hx⟩ _ 0 rfl (by omega)
    rw [List.take_zero,List.drop_zero,show l.map (admS [] v)=l from by rw [show admS [] v=id from by funext z;simp [admS]];simp] at h
    refine Ev.congr (fun k=> ?_) h
    rw [hmv]
    simp only [Option.bind_some]
    have:(up l n).length≠0:=by have:=up_self hx;intro q;rw [List.length_eq_zero_iff.1 q] at this;cases this
    rw [if_pos (by exact decide_eq_true hv),if_neg (by omega),r10_copied_eq l (by omega)]
    rfl
def zVec:Vec:=⟨0,0,0⟩
def newItem (n p:ByteArray) (v:Vec):Item:=⟨n,p,v,zVec,zVec,1⟩
def creR (l:List Item) (n p:ByteArray) (v:Vec):List Item×Int:=
 if¬((n≠⟨#[]⟩∧n.size≤24)∧MayP v) then ([],1) else if (look l n).isSome=true then ([],3) else if p≠⟨#[]⟩∧(look l p).isNone=true then ([],2) else if 120≤l.length then ([],4) else (insL l (newItem n p v),0)
theorem insL_cons (x:Item) (l:List Item) (it:Item):insL (x::l) it=if lt x.f0 it.f0=true then x::insL l it else it::x::l:=by
 unfold insL
 rw [List.takeWhile_cons,List.dropWhile_cons]
 cases lt x.f0 it.f0<;>simp
theorem r10_Create_l0 (n p:ByteArray) (v:Vec) (b:List Item): ∀(a l:List Item),l=a++b→l.length<1000000→Ev (fun k=>r10_Create.l0 k l n p a.length v.f0 v.f1 v.f2) (a++insL b (newItem n p v),0):=by
  induction b with
  | nil =>
    rintro a l rfl hl
    simp only [List.append_nil] at hl ⊢
    refine Ev.step (f:=fun _=>some (a++ [newItem n p v],0)) (fun k=> ?_) (Ev.now _)
    simp only [r10_Create.l0]
    rw [if_neg (by omega),if_pos (by omega),if_pos (by omega),Int.toNat_natCast,List.take_length,r10_copied_eq a (by omega)]
    simp only [Option.bind_some,List.drop_length,List.length_append,List.length_cons,List.length_nil]
    rw [if_pos (by omega),if_pos (by omega),List.append_nil]
    rfl
  | cons x b ih =>
    rintro a l rfl hl
    have hlen:(a++x::b).length=a.length+b.length+1:=by simp;omega
    have hrd:rd_T31 (a++x::b) (a.length:Int)=x:=by rw [rd_item,Int.toNat_natCast];simp
    rw [insL_cons]
    by_cases e:lt x.f0 n=true
    · rw [if_pos (by exact e)]
      have h:=ih (a++ [x]) (a++x::b) (by simp) hl
      refine Ev.step (f:=fun k=>r10_Create.l0 k (a++x::b) n p (a++ [x]).length v.f0 v.f1 v.f2) (fun k=> ?_) (by simpa using h)
      simp only [r10_Create.l0]
      rw [if_pos (by omega),if_pos (by omega),hrd,if_pos (by exact e),w64 (by omega) (by omega)]
      simp
    rw [if_neg (by exact e)]
    refine Ev.step (f:=fun _=>some (a++newItem n p v::x::b,0)) (fun k=> ?_) (Ev.now _)
    simp only [r10_Create.l0]
    rw [if_pos (by omega),if_pos (by omega),hrd,if_neg (by exact e),if_pos (by omega),Int.toNat_natCast,List.take_left,r10_copied_eq a (by omega)]
    simp only [Option.bind_some,List.drop_left,List.length_append,List.length_cons,List.length_nil]
    rw [if_pos (by omega),if_pos (by omega)]
    simp
    rfl
theorem r10_Create_ev {l:List Item} (hl:l.length<1000000) (n p:ByteArray) (v:Vec):Ev (fun k=>r10_Create.f k l n p v.f0 v.f1 v.f2) (creR l n p v):=by
  have hmv:r10_MayVec.f v.f0 v.f1 v.f2=some (decide (MayP v)):=r10_MayVec_eq _ _ _
  have hno: ∀e:Int,((r10_no.f e).bind fun bt=>some (bt.1,bt.2))=some (([]:List Item),e):=fun _=>rfl
  have hj1: ∀b,Ev (fun k=>r10_Create.j1 k l n p b v.f0 v.f1 v.f2) (if b=true then ([],2) else if 120≤l.length then ([],4) else (insL l (newItem n p v),0)):=by
    intro b
    cases b with
    | true =>
      refine Ev.step (f:=fun _=>some ([],2)) (fun k=> ?_) (Ev.now _)
      simp only [r10_Create.j1,if_true]
      exact hno 2
    | false =>
      simp only [Bool.false_eq_true,if_false]
      by_cases h:120≤l.length
      · rw [if_pos h]
        refine Ev.step (f:=fun _=>some ([],4)) (fun k=> ?_) (Ev.now _)
        simp only [r10_Create.j1,Bool.false_eq_true,if_false]
        rw [if_pos (by omega)];exact hno 4
      rw [if_neg h]
      refine Ev.step (f:=fun k=>r10_Create.l0 k l n p 0 v.f0 v.f1 v.f2) (fun k=> ?_) (by have:=r10_Create_l0 n p v l [] l rfl hl;simpa using this)
      simp only [r10_Create.j1,Bool.false_eq_true,if_false]
      rw [if_neg (by omega)]
  have hj0: ∀b,Ev (fun k=>r10_Create.j0 k l n p b v.f0 v.f1 v.f2) (if b=true then ([],1) else if (look l n).isSome=true then ([],3) else if p≠⟨#[]⟩∧(look l p).isNone=true then ([],2) else if 120≤l.length then ([],4) else (insL l (newItem n p v),0)):=by
    intro b
    cases b with
    | true =>
      refine Ev.step (f:=fun _=>some ([],1)) (fun k=> ?_) (Ev.now _)
      simp only [r10_Create.j0,if_true]
      exact hno 1
    | false =>
      simp only [Bool.false_eq_true,if_false]
      refine Ev.step (f:=fun k=>(r10_Find.f k l n).bind fun t=>if t≥0 then some ([],3) else if p.toList=([]:List UInt8) then r10_Create.j1 k l n p false v.f0 v.f1 v.f2 else (r10_Find.f k l p).bind fun t=>r10_Create.j1 k l n p (decide (t<0)) v.f0 v.f1 v.f2) (fun k=> ?_) (Ev.bind (r10_Find_ev l n hl) ?_)
      · simp only [r10_Create.j0,Bool.false_eq_true,if_false];rfl
      cases hn:look l n with
      | some x =>
        refine Ev.congr (fun k=> ?_) (Ev.now _)
        rw [if_pos (fnd_ge.2 ⟨x,hn⟩)];rfl
      | none =>
        simp only [Option.isSome_none,Bool.false_eq_true,if_false]
        by_cases hp:p=⟨#[]⟩
        · have h := hj1 false
          simp only [Bool.false_eq_true,if_false] at h
          rw [if_neg (fun q=>q.1 hp)]
          refine Ev.congr (fun k=> ?_) h
          rw [fnd_none hn,if_neg (by omega),if_pos (nm_empty.2 hp)]
        have h:=hj1 (decide (fnd l p<0))
        refine Ev.congr (g:=fun k=>_) (f:=fun k=>(r10_Find.f k l p).bind fun t=>r10_Create.j1 k l n p (decide (t<0)) v.f0 v.f1 v.f2) (fun k=> ?_) (Ev.bind (r10_Find_ev l p hl) ?_)
        · rw [fnd_none hn,if_neg (by omega),if_neg (fun q=>hp (nm_empty.1 q))]
        have e:(p≠⟨#[]⟩∧(look l p).isNone=true)↔(decide (fnd l p<0)=true):=by
          rw [decide_eq_true_iff,fnd_neg];simp [hp]
        rw [ite_iff e];exact h
  unfold creR
  by_cases hn:n≠⟨#[]⟩∧n.size≤24
  · have h := hj0 (!decide (MayP v))
    rw [ite_iff (q:=(!decide (MayP v))=true) (by simp [hn])]
    refine Ev.congr (fun k=> ?_) h
    unfold r10_Create.f
    rw [r10_MayName_eq,hmv]
    simp only [Option.bind_some]
    rw [if_pos (by exact decide_eq_true hn)]
  have h:=hj0 true
  rw [if_pos (fun q=>hn q.1)]
  rw [if_pos rfl] at h
  refine Ev.congr (fun k=> ?_) h
  unfold r10_Create.f
  rw [r10_MayName_eq]
  simp only [Option.bind_some]
  rw [if_neg (by simpa using hn)]
theorem creR_right {l:List Item} (hl:RightP l) {n p:ByteArray} {v:Vec} (h:(creR l n p v).2=0):
    (creR l n p v).1=insL l (newItem n p v)∧RightP (insL l (newItem n p v))∧look l n=none∧l.length<120∧n≠⟨#[]⟩∧n.size≤24∧MayP v∧(p=⟨#[]⟩∨ ∃y,look l p=some y):=by
  unfold creR at h ⊢
  split at h
  · simp at h
  rename_i h1
  split at h
  · simp at h
  rename_i h2
  split at h
  · simp at h
  rename_i h3
  split at h
  · simp at h
  rename_i h4
  rw [if_neg h1,if_neg h2,if_neg h3,if_neg h4]
  obtain ⟨⟨h5,h6⟩,h7⟩:=Classical.not_not.1 h1
  have hn:look l n=none:=by cases q:look l n with
    |none=>rfl
    |some x=>rw [q] at h2;simp at h2
  have hp:p=⟨#[]⟩∨ ∃y,look l p=some y:=by
    by_cases e:p=⟨#[]⟩
    · exact .inl e
    right
    cases q:look l p with
    |none=>rw [q] at h3;exact absurd ⟨e,rfl⟩ h3
    |some y=>exact ⟨y,rfl⟩
  have hz: ∀c:Comp,c.of zVec=0:=fun c=>by cases c<;>rfl
  refine ⟨rfl,ins_right hl ⟨h5,h6,h7,fun c=> ?_,fun c=> ?_,fun c=> ?_, ?_⟩ (fun c=>⟨hz c,hz c⟩) hn hp (by omega),hn,by omega,h5,h6,h7,hp⟩
  · show 0≤c.of zVec∧c.of zVec≤_;rw [hz];omega
  · show 0≤c.of zVec∧c.of zVec≤_;rw [hz];omega
  · show c.of zVec≤c.of v;rw [hz];exact (h7 c).1
  show (1:Int)≤1∧(1:Int)≤_;omega
def Bytes (ns:List Int):Prop:= ∀x∈ns,0≤x∧x≤255
theorem Bytes.rd {ns:List Int} (h:Bytes ns) (i:Int):0≤rd ns i∧rd ns i≤255:=by
 unfold Go.Proofs.YtcgefpklljclgaaW.PrintWords.rd
 rw [List.getD_eq_getElem?_getD]
 cases e:ns[i.toNat]? with
 |none=>simp
 |some x=>exact h x (List.mem_of_getElem? e)
def one (c:Int):ByteArray:=strOfNums [c]
structure MadeP (l:List Item):Prop where
 right:RightP l
 len:l.length≤24
 name: ∀x∈l,∃c:Int,97≤c∧c≤120∧x.f0=one c
 ver: ∀x∈l,x.f5=1
 lim: ∀x∈l,∀c:Comp,20≤c.of x.f2∧c.of x.f2≤275
end Go.Proofs.Ytcgefpklljclgaa.Print

namespace Go.Proofs.Ytcgefpklljclgaa.Print
open Go.RowKit Go.Proofs.YtcgefpklljclgaaW.PrintWords Go.Proofs.YtcgefpklljclgaaW.PrintLast Go.Proofs.YtcgefpklljclgaaW.PrintMore
theorem shape_made_eq (l:List Item) (n:ByteArray) (hl:l.length<1000000):shape_made.f l n=some (l,fnd l n):=by
 unfold shape_made.f slices_Clone_Item.f
 rw [if_pos (by omega)]
 rfl
theorem sh_Le_eq (a b d a' b' d':Int):vec_Le.f a b d a' b' d'=some (decide (LeP ⟨a,b,d⟩ ⟨a',b',d'⟩)):=by
 unfold vec_Le.f
 rw [show decide (LeP ⟨a,b,d⟩ ⟨a',b',d'⟩)=decide (a≤a'∧b≤b'∧d≤d') from decide_eq_decide.2 leP_iff]
 by_cases h1:a≤a'<;>by_cases h2:b≤b'<;>simp [h1,h2]
theorem sh_May_eq (a b d:Int):vec_May.f a b d=some (decide (MayP ⟨a,b,d⟩)):=by
  unfold vec_May.f
  rw [sh_Le_eq,Option.bind_some]
  have hm:(vec_Most.f)=some (1099511627776,1099511627776,1099511627776):=rfl
  by_cases h:LeP ⟨0,0,0⟩ ⟨a,b,d⟩
  rotate_left
  · rw [if_neg (by simpa using h)]
    congr 1
    rw [eq_comm,decide_eq_false_iff_not,mayP_iff]
    rw [leP_iff] at h
    omega
  rw [if_pos (decide_eq_true h),hm]
  simp only [Option.bind_some,sh_Le_eq]
  congr 1
  apply decide_eq_decide.2
  rw [leP_iff] at h ⊢
  rw [mayP_iff]
  omega
theorem insL_place (l:List Item) (n p:ByteArray) (v:Vec):l.take (placeL l n)++newItem n p v::l.drop (placeL l n)=insL l (newItem n p v):=by
 unfold insL placeL
 have e:=List.takeWhile_append_dropWhile (p:=fun x:Item=>lt x.f0 n) (l:=l)
 have h1:l.take (l.takeWhile fun y:Item=>lt y.f0 n).length=l.takeWhile fun y=>lt y.f0 n:=by
  conv=>lhs;rhs;rw [←e]
  exact List.take_left
 have h2:l.drop (l.takeWhile fun y:Item=>lt y.f0 n).length=l.dropWhile fun y=>lt y.f0 n:=by
  conv=>lhs;rhs;rw [←e]
  exact List.drop_left
 exact congr (congrArg _ h1) (congrArg _ h2)
theorem shape_parent_eq (l:List Item) (j:Int) (p:ByteArray):shape_change_parent.f l j p=some (decide (¬(p≠⟨#[]⟩∧(look l p).isNone=true))):=by
  unfold shape_change_parent.f
  by_cases hp:p=⟨#[]⟩
  · rw [if_pos (nm_empty.2 hp)]
    simp [hp]
  rw [if_neg (fun e=>hp (nm_empty.1 e)),tree_Find_eq]
  simp only [Option.bind_some]
  congr 1
  apply decide_eq_decide.2
  rw [show (fnd l p≥0)↔ ∃x,look l p=some x from fnd_ge]
  cases look l p<;>simp [hp]
theorem shape_Create_eq {l:List Item} (hl:l.length<1000000) (n p:ByteArray) (v:Vec):shape_Create.f l n p v.f0 v.f1 v.f2=some (creR l n p v):=by
  unfold shape_Create.f creR
  rw [shape_made_eq l n hl]
  simp only [Option.bind_some,sh_May_eq,shape_parent_eq]
  by_cases h0:n=⟨#[]⟩
  · rw [if_pos (nm_empty.2 h0),if_pos (by simp [h0])]
  rw [if_neg (fun e=>h0 (nm_empty.1 e))]
  by_cases h1:(n.size:Int)>24
  · rw [if_pos h1,if_pos (by intro h;omega)]
  rw [if_neg h1]
  by_cases h2:MayP v
  rotate_left
  · rw [if_pos (by simpa using h2),if_pos (by intro h;exact h2 h.2)]
  rw [if_neg (show¬decide (MayP v)=false by simpa using h2),if_neg (show¬ ¬((n≠⟨#[]⟩∧n.size≤24)∧MayP v) from fun h=>h ⟨⟨h0,by omega⟩,h2⟩)]
  by_cases h3:fnd l n≥0
  · rw [if_pos h3,if_pos (show (look l n).isSome=true by obtain ⟨x,hx⟩:=fnd_ge.1 h3;rw [hx];rfl)]
  rw [if_neg h3,if_neg (show¬(look l n).isSome=true by rw [fnd_neg.1 (by omega)];simp)]
  by_cases h4:p≠⟨#[]⟩∧(look l p).isNone=true
  · rw [if_pos (by simpa using h4),if_pos h4]
  rw [if_neg (show¬decide (¬(p≠⟨#[]⟩∧(look l p).isNone=true))=false by simpa using h4),if_neg h4]
  by_cases h5:120≤l.length
  · rw [if_pos (by omega),if_pos h5]
  rw [if_neg (by omega),if_neg h5]
  exact congrArg (fun q=>some (q,(0:Int))) (insL_place l n p v)
theorem tree_Up_l0 (l:List Item) (hl:l.length<1000000): ∀(m:Nat) (n:ByteArray) (out:List ByteArray),out.length+m=l.length+1→
    Ev (fun k=>tree_Up.l0 k l out (fnd l n)) (out++upGo l m n)
  | 0, n, out, hm => by
    rw [upGo.eq_1,List.append_nil]
    refine Ev.step (f:=fun _=>some out) (fun k=> ?_) (Ev.now _)
    simp only [tree_Up.l0]
    by_cases h:0≤fnd l n
    · rw [if_pos h,if_neg (by omega)]
    rw [if_neg h]
  | m + 1, n, out, hm => by
    cases h:look l n with
    | none =>
      rw [upGo_none h,List.append_nil]
      refine Ev.step (f:=fun _=>some out) (fun k=> ?_) (Ev.now _)
      simp only [tree_Up.l0]
      rw [fnd_none h,if_neg (by omega)]
    | some x =>
      rw [upGo_some h]
      have h0:=fnd_ge.2 ⟨x,h⟩
      have h1:=fnd_lt l n
      obtain ⟨hx,hn⟩:=look_mem h
      refine Ev.step (f:=fun k=>tree_Up.l0 k l (out++ [n]) (fnd l x.f1)) (fun k=> ?_) ?_
      · simp only [tree_Up.l0]
        rw [if_pos h0,if_pos (by omega),if_pos h0,if_pos h1,if_pos (by omega),fnd_rd h,hn,tree_Find_eq]
        rfl
      have:=tree_Up_l0 l hl m x.f1 (out++ [n]) (by simp;omega)
      simpa using this
theorem tree_Up_ev (l:List Item) (n:ByteArray) (hl:l.length<1000000):Ev (fun k=>tree_Up.f k l n) (up l n):=by
 have:=tree_Up_l0 l hl (l.length+1) n [] (by simp)
 rw [List.nil_append] at this
 exact this
def ways (l:List Item) (n:ByteArray):List Item:=(up l n).map (fun u=>rd_T31 l (fnd l u))
theorem up_in {l:List Item} {n u:ByteArray} (h:u∈up l n): ∃x,look l u=some x:=by
  have: ∀(m:Nat) (n:ByteArray),u∈upGo l m n→ ∃x,look l u=some x:=by
    intro m
    induction m with
    |zero=>intro n h;cases h
    | succ m ih =>
      intro n h
      cases e:look l n with
      |none=>rw [upGo_none e] at h;cases h
      | some x =>
        rw [upGo_some e] at h
        rcases List.mem_cons.1 h with rfl|h
        · exact ⟨x,e⟩
        exact ih _ h
  exact this _ _ h
theorem ways_mem {l:List Item} {n:ByteArray} {x:Item} (h:x∈ways l n):x∈l∧x.f0∈up l n:=by
 obtain ⟨u,hu,rfl⟩:=List.mem_map.1 h
 obtain ⟨x,hx⟩:=up_in hu
 rw [fnd_rd hx]
 obtain ⟨h1,h2⟩:=look_mem hx
 exact ⟨h1,by rw [h2];exact hu⟩
theorem room_along_l0 (l:List Item) (us:List ByteArray) (hu: ∀u∈us,∃x,look l u=some x) (hs:us.length<1000000): ∀(d i:Nat) (acc:List Item),us.length - i=d→i≤us.length→acc.length=i→
    Ev (fun k=>room_along.l0 k l us us.length i acc) (acc++(us.drop i).map (fun u=>rd_T31 l (fnd l u)))
  | 0, i, acc, hd, hi, ha => by
    obtain rfl:i=us.length:=by omega
    rw [List.drop_length,List.map_nil,List.append_nil]
    refine Ev.step (f:=fun _=>some acc) (fun k=> ?_) (Ev.now _)
    simp only [room_along.l0]
    rw [if_neg (by omega)]
  | d + 1, i, acc, hd, hi, ha => by
    have hlt:i<us.length:=by omega
    rw [drop_cons hlt,List.map_cons]
    obtain ⟨x,hx⟩:=hu (rdOf ByteArray.empty us i) (by simp [rdOf,hlt])
    have h0:=fnd_ge.2 ⟨x,hx⟩
    have h1:=fnd_lt l (rdOf ByteArray.empty us i)
    refine Ev.step (f:=fun k=>room_along.l0 k l us us.length ((i+1:Nat):Int) (acc++ [rd_T31 l (fnd l (rdOf ByteArray.empty us i))])) (fun k=> ?_) ?_
    · simp only [room_along.l0, tree_Find_eq, Option.bind_some]
      rw [if_pos (by omega),if_pos (by omega),if_pos (by omega),if_pos h0,if_pos h1,if_pos (by omega),w64 (by omega) (by omega)]
      rfl
    have:=room_along_l0 l us hu hs d (i+1) (acc++ [rd_T31 l (fnd l (rdOf ByteArray.empty us i))]) (by omega) (by omega) (by simp;omega)
    simpa using this
theorem room_along_ev (l:List Item) (n:ByteArray) (hl:l.length<100000):Ev (fun k=>room_along.f k l n) (ways l n):=
 Ev.bind (tree_Up_ev l n (by omega)) (by
  have:=room_along_l0 l (up l n) (fun u hu=>up_in hu) (by have:=up_len l n;omega) _ 0 [] rfl (by omega) rfl
  rw [List.nil_append,List.drop_zero] at this
  exact this)
def vmin (a b:Vec):Vec:=⟨min a.f0 b.f0,min a.f1 b.f1,min a.f2 b.f2⟩
def most:Vec:=⟨1099511627776,1099511627776,1099511627776⟩
theorem most_may:MayP most:=by intro c;cases c<;>simp [most,Comp.of]
theorem of_vmin (c:Comp) (a b:Vec):c.of (vmin a b)=min (c.of a) (c.of b):=by cases c<;>rfl
def freeV (x:Item):Vec:=vsub x.f2 x.f4
theorem free_may {x:Item} (h:ItemOK x):MayP (freeV x):=fun c=>by
 have a:=h.lim c;have b:=h.sub c;have d:=h.fit c
 unfold freeV;rw [of_vsub];omega
def leastV (ws:List Item) (a:Vec):Vec:=ws.foldl (fun a x=>vmin a (freeV x)) a
theorem vmin_may {a b:Vec} (ha:MayP a) (hb:MayP b):MayP (vmin a b):=fun c=>by
 have a:=ha c;have b:=hb c
 rw [of_vmin];omega
theorem least_cons (x:Item) (ws:List Item) (a:Vec):leastV (x::ws) a=leastV ws (vmin a (freeV x)):=rfl
theorem least_le_start (c:Comp) (ws:List Item): ∀(a:Vec),c.of (leastV ws a)≤c.of a:=by
 induction ws with
 |nil=>intro a;exact Int.le_refl _
 |cons x ws ih=>intro a;rw [least_cons];have:=ih (vmin a (freeV x));rw [of_vmin] at this;omega
theorem least_le (c:Comp) {ws:List Item}: ∀{a:Vec} {x:Item},x∈ws→c.of (leastV ws a)≤c.of (freeV x):=by
  induction ws with
  |nil=>intro a x h;cases h
  | cons y ws ih =>
    intro a x h
    rw [least_cons]
    rcases List.mem_cons.1 h with rfl|h
    · have:=least_le_start c ws (vmin a (freeV x));rw [of_vmin] at this;omega
    exact ih h
theorem le_least (c:Comp) {b:Int} {ws:List Item}: ∀{a:Vec},b≤c.of a→(∀x∈ws,b≤c.of (freeV x))→b≤c.of (leastV ws a):=by
 induction ws with
 |nil=>intro a h _;exact h
 |cons x ws ih=>intro a h hw;rw [least_cons];exact ih (by rw [of_vmin];have:=hw x (by simp);omega) (fun y hy=>hw y (by simp [hy]))
theorem vec_Sub_eq {a b:Vec} (ha:MayP a) (hb:MayP b):vec_Sub.f a.f0 a.f1 a.f2 b.f0 b.f1 b.f2=some ((vsub a b).f0,(vsub a b).f1,(vsub a b).f2):=by
 have a0:=ha .cpu;have a1:=ha .mem;have a2:=ha .pods
 have b0:=hb .cpu;have b1:=hb .mem;have b2:=hb .pods
 simp only [Comp.of] at a0 a1 a2 b0 b1 b2
 unfold vec_Sub.f
 rw [w64 (by omega) (by omega),w64 (by omega) (by omega),w64 (by omega) (by omega)]
 rfl
theorem vec_Add2 {a b:Vec} (ha:MayP a) (hb:MayP b):vec_Add.f [a,b]=some (a.f0+b.f0,a.f1+b.f1,a.f2+b.f2):=by
 have a0:=ha .cpu;have a1:=ha .mem;have a2:=ha .pods
 have b0:=hb .cpu;have b1:=hb .mem;have b2:=hb .pods
 simp only [Comp.of] at a0 a1 a2 b0 b1 b2
 simp only [vec_Add.f,vecByF]
 rw [w64 (n:=0+a.f0) (by omega) (by omega),w64 (n:=0+a.f1) (by omega) (by omega),w64 (n:=0+a.f2) (by omega) (by omega),w64 (by omega) (by omega),w64 (by omega) (by omega),w64 (by omega) (by omega),Int.zero_add,Int.zero_add,Int.zero_add]
theorem vec_Max2 {a b:Vec} (ha:MayP a) (hb:MayP b):vec_Max.f [a,b]=some (max a.f0 b.f0,max a.f1 b.f1,max a.f2 b.f2):=by
 have a0:=ha .cpu;have a1:=ha .mem;have a2:=ha .pods
 have b0:=hb .cpu;have b1:=hb .mem;have b2:=hb .pods
 simp only [Comp.of] at a0 a1 a2 b0 b1 b2
 have e: ∀x y:Int,0≤x→mx (mx 0 x) y=max x y:=fun x y hx=>by unfold mx;split<;>split<;>omega
 simp only [vec_Max.f,vecByF]
 rw [e _ _ a0.1,e _ _ a1.1,e _ _ a2.1]
theorem room_free_eq {x:Item} (h:ItemOK x):room_free.f x.f0 x.f1 x.f2.f0 x.f2.f1 x.f2.f2 x.f3.f0 x.f3.f1 x.f3.f2 x.f4.f0 x.f4.f1 x.f4.f2 x.f5=some ((freeV x).f0,(freeV x).f1,(freeV x).f2):=by
 unfold room_free.f
 rw [vec_Sub_eq (a:=x.f2) (b:=x.f4) h.lim h.sub]
 rfl
theorem room_made_l0 (ws ws':List Item) (hw: ∀x∈ws,ItemOK x) (hs:ws.length<1000000): ∀(d i:Nat) (a:Vec),ws.length - i=d→i≤ws.length→MayP a→
    Ev (fun k=>room_made.l0 k ws ws.length i ws' a.f0 a.f1 a.f2) (ws',(leastV (ws.drop i) a).f0,(leastV (ws.drop i) a).f1,(leastV (ws.drop i) a).f2)
  | 0, i, a, hd, hi, ha => by
    obtain rfl:i=ws.length:=by omega
    rw [List.drop_length]
    refine Ev.step (f:=fun _=>some (ws',a.f0,a.f1,a.f2)) (fun k=> ?_) (Ev.now _)
    simp only [room_made.l0]
    rw [if_neg (by omega)]
  | d + 1, i, a, hd, hi, ha => by
    have hlt:i<ws.length:=by omega
    have hrd:rd_T31 ws (i:Int)=ws[i]:=by rw [rd_item,Int.toNat_natCast];simp [hlt]
    have hx:ItemOK ws[i]:=hw _ (List.getElem_mem hlt)
    have hf:=free_may hx
    rw [List.drop_eq_getElem_cons hlt]
    have hmin:vec_Sub.f (a.f0+(freeV ws[i]).f0) (a.f1+(freeV ws[i]).f1) (a.f2+(freeV ws[i]).f2) (max a.f0 (freeV ws[i]).f0) (max a.f1 (freeV ws[i]).f1) (max a.f2 (freeV ws[i]).f2)=some ((vmin a (freeV ws[i])).f0,(vmin a (freeV ws[i])).f1,(vmin a (freeV ws[i])).f2):=by
      have a0:=ha .cpu;have a1:=ha .mem;have a2:=ha .pods
      have b0:=hf .cpu;have b1:=hf .mem;have b2:=hf .pods
      simp only [Comp.of] at a0 a1 a2 b0 b1 b2
      have e: ∀x y:Int,0≤x∧x≤1099511627776→0≤y∧y≤1099511627776→wrap64 (x+y - max x y)=min x y:=fun x y hx hy=>by rw [w64 (by omega) (by omega)];omega
      unfold vec_Sub.f
      rw [e _ _ a0 b0,e _ _ a1 b1,e _ _ a2 b2]
      rfl
    refine Ev.step (f:=fun k=>room_made.l0 k ws ws.length ((i+1:Nat):Int) ws' (vmin a (freeV ws[i])).f0 (vmin a (freeV ws[i])).f1 (vmin a (freeV ws[i])).f2) (fun k=> ?_) (room_made_l0 ws ws' hw hs d (i+1) _ (by omega) (by omega) (vmin_may ha hf))
    simp only [room_made.l0]
    rw [if_pos (by omega),if_pos (by omega),if_pos (by omega),hrd,room_free_eq hx]
    simp only [Option.bind_some]
    rw [show (⟨a.f0,a.f1,a.f2⟩:Vec)=a from rfl,show (⟨(freeV ws[i]).f0,(freeV ws[i]).f1,(freeV ws[i]).f2⟩:Vec)=freeV ws[i] from rfl,vec_Add2 ha hf,vec_Max2 ha hf]
    simp only [Option.bind_some]
    rw [hmin,w64 (by omega) (by omega)]
    rfl
theorem right_ways {l:List Item} (hl:RightP l) (n:ByteArray): ∀x∈ways l n,ItemOK x:=fun x hx=>hl.ok x (ways_mem hx).1
def roomV (l:List Item) (n:ByteArray):Vec:=leastV (ways l n) most
theorem room_made_ev {l:List Item} (hl:RightP l) (n:ByteArray):Ev (fun k=>room_made.f k l n) (ways l n,(roomV l n).f0,(roomV l n).f1,(roomV l n).f2):=by
 have hlen:=hl.len
 refine Ev.bind (room_along_ev l n (by omega)) ?_
 have h:=room_made_l0 (ways l n) (ways l n) (right_ways hl n) (by unfold ways;rw [List.length_map];have:=up_len l n;omega) _ 0 most rfl (by omega) most_may
 rw [List.drop_zero] at h
 refine Ev.congr (fun k=> ?_) h
 rfl
def roomR (l:List Item) (n:ByteArray):Int×Int×Int×Bool:=if (look l n).isNone=true then (0,0,0,false) else ((roomV l n).f0,(roomV l n).f1,(roomV l n).f2,true)
theorem room_Of_ev {l:List Item} (hl:RightP l) (n:ByteArray):Ev (fun k=>room_Of.f k l n) (roomR l n):=by
  refine Ev.bind (room_made_ev hl n) ?_
  unfold roomR
  refine Ev.congr (fun k=> ?_) (Ev.now _)
  cases h:look l n with
  | none =>
    rw [if_pos (show (none:Option Item).isNone=true from rfl),show ways l n=[] from by unfold ways;rw [show up l n=[] from upGo_none h _];rfl]
    rfl
  | some x =>
    have:=up_self h
    have:(ways l n).length≠0:=by unfold ways;rw [List.length_map];intro q;rw [List.length_eq_zero_iff.1 q] at this;cases this
    rw [if_neg (by show¬((ways l n).length:Int)=0;omega),if_neg (by simp)]
theorem hasStr_cons (x:ByteArray) (l:List ByteArray) (s:ByteArray):hasStr (x::l) s=(decide (s.toList=x.toList)||hasStr l s):=by unfold hasStr;rw [List.any_cons]
theorem r10_in_l0 (l:List ByteArray) (s:ByteArray) (hl:l.length<1000000): ∀(d i:Nat),l.length - i=d→i≤l.length→Ev (fun k=>r10_in.l0 k l s i) (hasStr (l.drop i) s)
  | 0, i, hd, hi => by
    obtain rfl:i=l.length:=by omega
    rw [List.drop_length]
    refine Ev.step (f:=fun _=>some false) (fun k=> ?_) (Ev.now _)
    simp only [r10_in.l0]
    rw [if_neg (by omega)]
  | d + 1, i, hd, hi => by
    have hlt:i<l.length:=by omega
    have hrd:rdOf ByteArray.empty l (i:Int)=l[i]:=by simp [rdOf,hlt]
    rw [List.drop_eq_getElem_cons hlt,hasStr_cons]
    by_cases e:l[i].toList=s.toList
    · rw [decide_eq_true e.symm, Bool.true_or]
      refine Ev.step (f:=fun _=>some true) (fun k=> ?_) (Ev.now _)
      simp only [r10_in.l0]
      rw [if_pos (by omega),if_pos (by omega),hrd,if_pos e]
    rw [decide_eq_false (fun q=>e q.symm),Bool.false_or]
    refine Ev.step (f:=fun k=>r10_in.l0 k l s ((i+1:Nat):Int)) (fun k=> ?_) (r10_in_l0 l s hl d (i+1) (by omega) (by omega))
    simp only [r10_in.l0]
    rw [if_pos (by omega),if_pos (by omega),hrd,if_neg e,w64 (by omega) (by omega)]
    rfl
theorem r10_in_ev (l:List ByteArray) (s:ByteArray) (hl:l.length<1000000):Ev (fun k=>r10_in.f k l s) (hasStr l s):=r10_in_l0 l s hl _ 0 rfl (by omega)
def addV (a:Vec) (ws:List Item):Vec:=⟨a.f0+sumBy (fun x=>x.f4.f0) ws,a.f1+sumBy (fun x=>x.f4.f1) ws,a.f2+sumBy (fun x=>x.f4.f2) ws⟩
theorem addV_nil (a:Vec):addV a []=a:=by unfold addV;simp [sumBy_nil]
def SmallV (a:Vec) (n:Nat):Prop:= ∀c:Comp,0≤c.of a∧c.of a≤1099511627776*n
theorem small_wrap {a b:Vec} {n:Nat} (ha:SmallV a n) (hb:MayP b) (hn:n≤1000):wrap64 (a.f0+b.f0)=(vadd a b).f0∧wrap64 (a.f1+b.f1)=(vadd a b).f1∧wrap64 (a.f2+b.f2)=(vadd a b).f2:=by
 have a0:=ha .cpu;have a1:=ha .mem;have a2:=ha .pods
 have b0:=hb .cpu;have b1:=hb .mem;have b2:=hb .pods
 simp only [Comp.of] at a0 a1 a2 b0 b1 b2
 exact ⟨w64 (by omega) (by omega),w64 (by omega) (by omega),w64 (by omega) (by omega)⟩
theorem up_cons {l:List Item} (hl:RightP l) {x:Item} (hx:x∈l):up l x.f0=x.f0::up l x.f1:=(Chain.cons (hl.look hx) (hl.chainAll x.f1)).up
theorem sumBy_filter (g:Item→Int) (p:Item→Bool): ∀l:List Item,sumBy g (l.filter p)=sumBy (fun x=>if p x=true then g x else 0) l
  |[]=>rfl
  | x :: l => by
    rw [sumBy_cons]
    by_cases h:p x=true
    · rw [List.filter_cons_of_pos h,sumBy_cons,sumBy_filter g p l,if_pos h]
    rw [List.filter_cons_of_neg h,sumBy_filter g p l,if_neg h];omega
theorem below_l0 (l:List Item) (n:ByteArray) (hl:l.length<1000000): ∀(d i:Nat) (acc:List ByteArray),l.length - i=d→i≤l.length→acc.length≤i→Ev (fun k=>r10_Below.l0 k l n acc i) (acc++((l.drop i).filter (fun x=>decide (x.f1=n))).map (·.f0))
  | 0, i, acc, hd, hi, ha => by
    obtain rfl:i=l.length:=by omega
    rw [List.drop_length]
    refine Ev.step (f:=fun _=>some acc) (fun k=> ?_) (by rw [show acc++(([]:List Item).filter (fun x=>decide (x.f1=n))).map (·.f0)=acc from List.append_nil _];exact Ev.now _)
    rw [r10_Below.l0,if_neg (by omega)]
  | d + 1, i, acc, hd, hi, ha => by
    have hlt:i<l.length:=by omega
    have hrd:rd_T31 l (i:Int)=l[i]:=by rw [rd_item,Int.toNat_natCast];simp [hlt]
    rw [List.drop_eq_getElem_cons hlt]
    generalize l[i]=x at*
    by_cases h:x.f1=n
    rotate_left
    · rw [List.filter_cons_of_neg (by simpa using h)]
      refine Ev.step (f:=fun k=>r10_Below.l0 k l n acc ((i+1:Nat):Int)) (fun k=> ?_) (below_l0 l n hl d (i+1) acc (by omega) (by omega) (by omega))
      rw [r10_Below.l0,if_pos (by omega),if_pos (by omega),hrd,if_neg (fun q=>h (nm_inj.1 q)),w64 (by omega) (by omega)]
      rfl
    rw [List.filter_cons_of_pos (by exact decide_eq_true h)]
    refine Ev.step (f:=fun k=>r10_Below.l0 k l n (acc++ [x.f0]) ((i+1:Nat):Int)) (fun k=> ?_) ?_
    · rw [r10_Below.l0, if_pos (by omega), if_pos (by omega), hrd, if_pos (nm_inj.2 h), if_pos (by omega), w64 (by omega) (by omega)]
      rfl
    have:=below_l0 l n hl d (i+1) (acc++ [x.f0]) (by omega) (by omega) (by simp;omega)
    rw [List.append_assoc] at this
    exact this
def kids (l:List Item) (n:ByteArray):List ByteArray:=(l.filter (fun x=>decide (x.f1=n))).map (·.f0)
theorem below_ev (l:List Item) (n:ByteArray) (hl:l.length<1000000):Ev (fun k=>r10_Below.f k l n) (kids l n):=by
 have h:=below_l0 l n hl _ 0 [] rfl (by omega) (by simp)
 rw [List.drop_zero,List.nil_append] at h
 exact h
theorem kids_mem {l:List Item} {n s:ByteArray}:s∈kids l n↔ ∃y∈l,y.f1=n∧y.f0=s:=by
  unfold kids
  simp only [List.mem_map,List.mem_filter,decide_eq_true_eq]
  constructor
  · rintro ⟨y,⟨h1,h2⟩,h3⟩;exact ⟨y,h1,h2,h3⟩
  rintro ⟨y,h1,h2,h3⟩;exact ⟨y,⟨h1,h2⟩,h3⟩
theorem shbelow_l0 (l:List Item) (n:ByteArray) (hl:l.length<1000000): ∀(d i:Nat) (acc:List ByteArray),l.length - i=d→i≤l.length→acc.length≤i→Ev (fun k=>tree_Below.l0 k n acc l (l.length:Int) i) (acc++((l.drop i).filter (fun x=>decide (x.f1=n))).map (·.f0))
  | 0, i, acc, hd, hi, ha => by
    obtain rfl:i=l.length:=by omega
    rw [List.drop_length]
    refine Ev.step (f:=fun _=>some acc) (fun k=> ?_) (by rw [show acc++(([]:List Item).filter (fun x=>decide (x.f1=n))).map (·.f0)=acc from List.append_nil _];exact Ev.now _)
    rw [tree_Below.l0,if_neg (by omega)]
  | d + 1, i, acc, hd, hi, ha => by
    have hlt:i<l.length:=by omega
    have hrd:rd_T31 l (i:Int)=l[i]:=by rw [rd_item,Int.toNat_natCast];simp [hlt]
    rw [List.drop_eq_getElem_cons hlt]
    generalize l[i]=x at*
    by_cases h:x.f1=n
    rotate_left
    · rw [List.filter_cons_of_neg (by simpa using h)]
      refine Ev.step (f:=fun k=>tree_Below.l0 k n acc l (l.length:Int) ((i+1:Nat):Int)) (fun k=> ?_) (shbelow_l0 l n hl d (i+1) acc (by omega) (by omega) (by omega))
      rw [tree_Below.l0,if_pos (by omega),if_pos (by omega),if_pos (by omega),hrd,if_neg (fun q=>h (nm_inj.1 q)),w64 (by omega) (by omega)]
      rfl
    rw [List.filter_cons_of_pos (by exact decide_eq_true h)]
    refine Ev.step (f:=fun k=>tree_Below.l0 k n (acc++ [x.f0]) l (l.length:Int) ((i+1:Nat):Int)) (fun k=> ?_) ?_
    · rw [tree_Below.l0, if_pos (by omega), if_pos (by omega), if_pos (by omega), hrd, if_pos (nm_inj.2 h), if_pos (by omega), w64 (by omega) (by omega)]
      rfl
    have:=shbelow_l0 l n hl d (i+1) (acc++ [x.f0]) (by omega) (by omega) (by simp;omega)
    rw [List.append_assoc] at this
    exact this
theorem shbelow_ev (l:List Item) (n:ByteArray) (hl:l.length<1000000):Ev (fun k=>tree_Below.f k l n) (kids l n):=by
 have h:=shbelow_l0 l n hl _ 0 [] rfl (by omega) (by simp)
 rw [List.drop_zero,List.nil_append] at h
 exact h
def oldR (l:List Item) (n:ByteArray) (ver:Int):Int:=match look l n with
 |none=>2
 |some x=>if 0≤ver∧x.f5≠ver then 14 else 0
theorem oldR_none {l:List Item} {n:ByteArray} {ver:Int} (h:look l n=none):oldR l n ver=2:=by unfold oldR;rw [h]
theorem oldR_some {l:List Item} {n:ByteArray} {ver:Int} {x:Item} (h:look l n=some x):oldR l n ver=if 0≤ver∧x.f5≠ver then 14 else 0:=by unfold oldR;rw [h]
theorem oldR_zero {l:List Item} {n:ByteArray} {ver:Int} (h:oldR l n ver=0): ∃x,look l n=some x∧(0≤ver→x.f5=ver):=by
  cases q:look l n with
  |none=>rw [oldR_none q] at h;cases h
  | some x =>
    rw [oldR_some q] at h
    refine ⟨x,rfl,fun hv=> ?_⟩
    by_cases e:x.f5=ver
    · exact e
    rw [if_pos ⟨hv,e⟩] at h;cases h
theorem guardF_eq (l:List Item) (n:ByteArray) (ver:Int):guardF l (fnd l n) ver=some (oldR l n ver):=by
  unfold guardF
  cases q:look l n with
  |none=>rw [fnd_none q,oldR_none q,if_pos (by omega)]
  | some x =>
    have h0:=fnd_ge.2 ⟨x,q⟩
    have h1:=fnd_lt l n
    rw [if_neg (by omega),if_pos h1,fnd_rd q,oldR_some q]
    by_cases e:0≤ver∧x.f5≠ver
    · rw [if_pos e,if_pos e]
    rw [if_neg e,if_neg e]
theorem r10_old_ev (l:List Item) (n:ByteArray) (ver:Int) (hl:l.length<1000000):Ev (fun k=>r10_old.f k l n ver) (oldR l n ver):=by
  refine Ev.bind (r10_Find_ev l n hl) (Ev.const ?_)
  cases q:look l n with
  |none=>rw [fnd_none q,oldR_none q,if_pos (by omega)]
  | some x =>
    have h0:=fnd_ge.2 ⟨x,q⟩
    have h1:=fnd_lt l n
    rw [if_neg (by omega),fnd_rd q,oldR_some q]
    by_cases e:ver≥0
    rotate_left
    · rw [if_neg e,if_neg (fun h=>e h.1)]
    rw [if_pos e,if_pos h0,if_pos h1]
    by_cases e2:x.f5=ver
    · rw [if_pos e2,if_neg (fun h=>h.2 e2)]
    rw [if_neg e2,if_pos ⟨e,e2⟩]
def limG (n:ByteArray) (v:Vec) (x:Item):Item:=if x.f0=n then ⟨x.f0,x.f1,v,x.f3,x.f4,x.f5+1⟩ else x
def limR (l:List Item) (n:ByteArray) (v:Vec) (ver:Int):List Item×Int:=
 if¬MayP v then ([],1) else if oldR l n ver≠0 then ([],oldR l n ver) else match look l n with
  |none=>([],2)
  |some x=>if 9007199254740992≤x.f5 then ([],4) else if LeP x.f4 v then (l.map (limG n v),0) else ([],12)
theorem set_limG {l:List Item} (hl:RightP l) {n:ByteArray} {x:Item} (h:look l n=some x) (v:Vec):l.set (fnd l n).toNat ⟨x.f0,x.f1,v,x.f3,x.f4,x.f5+1⟩=l.map (limG n v):=by
  rw [set_at hl.nodup h]
  refine List.map_congr_left fun z hz=> ?_
  unfold limG
  by_cases e:z.f0=n
  rotate_left
  · rw [if_neg e,if_neg e]
  rw [if_pos e,if_pos e]
  have hx:=look_mem h
  have:=hl.eq_of hz hx.1 (by rw [e,hx.2])
  rw [this]
theorem rd_set {l:List Item} {j:Int} (h0:0≤j) (h1:j<(l.length:Int)) (y:Item):rd_T31 (l.set j.toNat y) j=y:=by
 rw [rd_item]
 simp [List.getD_eq_getElem?_getD,show j.toNat<l.length by omega]
theorem ver_step {x:Item} (h:ItemOK x):wrap64 (x.f5+1)=x.f5+1:=by
 have:=h.ver
 exact w64 (by omega) (by omega)
theorem olderF_eq {l:List Item} (hl:RightP l) {n:ByteArray} {x:Item} (h:look l n=some x):olderF l (fnd l n)=if 9007199254740992≤x.f5 then some (4,l) else some (0,l.set (fnd l n).toNat ⟨x.f0,x.f1,x.f2,x.f3,x.f4,x.f5+1⟩):=by
 unfold olderF
 have h0:=fnd_ge.2 ⟨x,h⟩
 have h1:=fnd_lt l n
 rw [if_pos ⟨h0,h1⟩,fnd_rd h]
 unfold verF
 rw [ver_step (hl.ok x (look_mem h).1)]
theorem shape_Limit_eq {l:List Item} (hl:RightP l) (n:ByteArray) (v:Vec) (ver:Int):shape_Limit.f l n v.f0 v.f1 v.f2 ver=some (limR l n v ver):=by
  have hlen:=hl.len
  unfold shape_Limit.f limR
  rw [sh_May_eq]
  simp only [Option.bind_some]
  by_cases h1:MayP v
  rotate_left
  · rw [if_pos (show decide (MayP v)=false by simpa using h1),if_pos h1]
  rw [if_neg (show¬decide (MayP v)=false by simpa using h1),if_neg (show¬ ¬MayP v from fun h=>h h1),shape_made_eq l n (by omega)]
  simp only [Option.bind_some,guardF_eq]
  by_cases h2:oldR l n ver=0
  rotate_left
  · rw [if_pos h2,if_pos h2]
  rw [if_neg (by simpa using h2),if_neg (by simpa using h2)]
  obtain ⟨x,hx,_⟩:=oldR_zero h2
  have j0:=fnd_ge.2 ⟨x,hx⟩
  have j1:=fnd_lt l n
  rw [olderF_eq hl hx]
  simp only [hx]
  by_cases h3:9007199254740992≤x.f5
  · rw [if_pos h3, if_pos h3]
    simp
  rw [if_neg h3,if_neg h3]
  simp only [Option.bind_some]
  rw [if_neg (by simp),rd_set j0 j1,sh_Le_eq]
  simp only [Option.bind_some]
  by_cases h4:LeP x.f4 v
  · rw [if_neg (show ¬ decide (LeP ⟨x.f4.f0, x.f4.f1, x.f4.f2⟩ ⟨v.f0, v.f1, v.f2⟩) = false by simpa using h4), if_pos h4, List.set_set]
    exact congrArg (fun q=>some (q,(0:Int))) (set_limG hl hx v)
  rw [if_pos (show decide (LeP ⟨x.f4.f0,x.f4.f1,x.f4.f2⟩ ⟨v.f0,v.f1,v.f2⟩)=false by simpa using h4),if_neg h4]
theorem r10_Limit_ev {l:List Item} (hl:RightP l) (n:ByteArray) (v:Vec) (ver:Int):Ev (fun k=>r10_Limit.f k l n v.f0 v.f1 v.f2 ver) (limR l n v ver):=by
  have hlen:=hl.len
  have hmv:r10_MayVec.f v.f0 v.f1 v.f2=some (decide (MayP v)):=r10_MayVec_eq _ _ _
  have hno: ∀e:Int,((r10_no.f e).bind fun bt=>some (bt.1,bt.2))=some (([]:List Item),e):=fun _=>rfl
  have hcp:r10_copied.f l=some l:=r10_copied_eq l (by omega)
  unfold r10_Limit.f limR
  rw [hmv]
  simp only [Option.bind_some]
  by_cases h1:MayP v
  rotate_left
  · simp only [decide_eq_false h1]
    rw [if_pos h1]
    exact Ev.const (hno 1)
  rw [if_neg (show¬ ¬MayP v from fun h=>h h1)]
  simp only [decide_eq_true h1,if_true]
  refine Ev.bind (r10_old_ev l n ver (by omega)) ?_
  by_cases h2:oldR l n ver=0
  rotate_left
  · simp only [h2, if_false]
    rw [if_pos (show oldR l n ver≠0 from h2)]
    exact Ev.const (hno _)
  simp only [h2,if_true,hcp,Option.bind_some]
  rw [if_neg (by simp)]
  obtain ⟨x,hx,_⟩:=oldR_zero h2
  have j0:=fnd_ge.2 ⟨x,hx⟩
  have j1:=fnd_lt l n
  refine Ev.bind (r10_Find_ev l n (by omega)) ?_
  simp only [hx,eq_true j0,eq_true j1,if_true,fnd_rd hx]
  by_cases h3:9007199254740992≤x.f5
  · simp only [show (x.f5 ≥ 9007199254740992) = True from eq_true h3, h3, if_true]
    exact Ev.const (hno 4)
  simp only [show (x.f5≥9007199254740992)=False from eq_false h3,h3,if_false,r10_Le_eq,Option.bind_some]
  by_cases h4:LeP x.f4 v
  rotate_left
  · simp only [show decide (LeP ⟨x.f4.f0, x.f4.f1, x.f4.f2⟩ ⟨v.f0, v.f1, v.f2⟩) = false from decide_eq_false h4, if_false, h4]
    exact Ev.const (hno 12)
  simp only [show decide (LeP ⟨x.f4.f0,x.f4.f1,x.f4.f2⟩ ⟨v.f0,v.f1,v.f2⟩)=true from decide_eq_true h4,if_true,h4]
  refine Ev.const ?_
  rw [rd_set j0 j1,List.set_set]
  dsimp only
  rw [ver_step (hl.ok x (look_mem hx).1)]
  exact congrArg (fun q=>some (q,(0:Int))) (set_limG hl hx v)
def delL (l:List Item) (n:ByteArray):List Item:=l.filter (fun z=>decide (z.f0≠n))
def delR (l:List Item) (n:ByteArray) (ver:Int):List Item×Int:=
 if oldR l n ver≠0 then ([],oldR l n ver) else if 0<(kids l n).length then ([],13) else match look l n with
  |none=>([],2)
  |some x=>if x.f3.f0=0∧x.f3.f1=0∧x.f3.f2=0 then (delL l n,0) else ([],13)
theorem mem_delL {l:List Item} {n:ByteArray} {x:Item}:x∈delL l n↔x∈l∧x.f0≠n:=by simp [delL]
theorem look_delL (l:List Item) (n m:ByteArray):look (delL l n) m=if m=n then none else look l m:=by
  induction l with
  |nil=>simp [delL,look]
  | cons x l ih =>
    unfold delL at ih ⊢
    by_cases e:x.f0=n
    · rw [List.filter_cons_of_neg (by simpa using e), ih]
      by_cases em:m=n
      · rw [if_pos em,if_pos em]
      rw [if_neg em,if_neg em]
      unfold look
      rw [List.find?_cons]
      simp [show x.f0≠m from fun q=>em (q.symm.trans e)]
    rw [List.filter_cons_of_pos (by simpa using e)]
    unfold look at ih ⊢
    rw [List.find?_cons,List.find?_cons,ih]
    by_cases em:m=n
    · rw [if_pos em, if_pos em]
      simp [show x.f0≠m from fun q=>e (q.trans em)]
    rw [if_neg em,if_neg em]
theorem cut_delL {l:List Item} (hl:RightP l) {n:ByteArray} {x:Item} (h:look l n=some x):l.take (fnd l n).toNat++l.drop ((fnd l n).toNat+1)=delL l n:=by
  obtain ⟨j,h1,h2,h3,h4,h5⟩:=fnd_some h
  rw [h2,Int.toNat_natCast]
  have hx:l[j]=x:=by rw [←h3];simp [h1]
  have hsp:l=l.take j++l[j]::l.drop (j+1):=by rw [←List.drop_eq_getElem_cons h1,List.take_append_drop]
  have hnd:=hl.nodup
  unfold delL
  conv=>rhs;rw [hsp]
  rw [hsp,List.map_append,List.map_cons,List.nodup_append] at hnd
  obtain ⟨_,hn2,hn3⟩:=hnd
  rw [List.nodup_cons] at hn2
  rw [List.filter_append,List.filter_cons_of_neg (by rw [hx,h4];simp)]
  congr 1
  · rw [List.filter_eq_self.2]
    intro z hz
    have:=hn3 z.f0 (List.mem_map_of_mem hz) l[j].f0 (List.mem_cons_self ..)
    rw [hx,h4] at this
    simpa using this
  rw [List.filter_eq_self.2]
  intro z hz
  have:z.f0≠l[j].f0:=fun e=>hn2.1 (by rw [←e];exact List.mem_map_of_mem hz)
  rw [hx,h4] at this
  simpa using this
theorem shape_Delete_ev {l:List Item} (hl:RightP l) (n:ByteArray) (ver:Int):Ev (fun k=>shape_Delete.f k l n ver) (delR l n ver):=by
  have hlen:=hl.len
  unfold shape_Delete.f delR
  rw [shape_made_eq l n (by omega)]
  simp only [Option.bind_some,guardF_eq]
  by_cases h2:oldR l n ver=0
  rotate_left
  · simp only [h2, ne_eq, not_false_eq_true, if_true]
    exact Ev.now _
  obtain ⟨x,hx,_⟩:=oldR_zero h2
  simp only [h2,ne_eq,not_true_eq_false,if_false]
  refine Ev.bind (shbelow_ev l n (by omega)) ?_
  by_cases h3:0<(kids l n).length
  · simp only [show (((kids l n).length : Int) > 0) = True from eq_true (by omega), h3, if_true]
    exact Ev.now _
  simp only [show (((kids l n).length:Int)>0)=False from eq_false (by omega),h3,if_false,hx,fnd_rd hx]
  by_cases h4:x.f3.f0=0∧x.f3.f1=0∧x.f3.f2=0
  · simp only [h4, and_self, if_true]
    rw [cut_delL hl hx]
    exact Ev.now _
  simp only [h4,if_false]
  exact Ev.now _
theorem r10_Delete_ev {l:List Item} (hl:RightP l) (n:ByteArray) (ver:Int):Ev (fun k=>r10_Delete.f k l n ver) (delR l n ver):=by
  have hlen:=hl.len
  have hno: ∀e:Int,((r10_no.f e).bind fun bt=>some (bt.1,bt.2))=some (([]:List Item),e):=fun _=>rfl
  unfold r10_Delete.f delR
  refine Ev.bind (r10_old_ev l n ver (by omega)) ?_
  by_cases h2:oldR l n ver=0
  rotate_left
  · simp only [h2, ne_eq, not_false_eq_true, if_true, if_false]
    exact Ev.const (hno _)
  obtain ⟨x,hx,_⟩:=oldR_zero h2
  have j0:=fnd_ge.2 ⟨x,hx⟩
  have j1:=fnd_lt l n
  simp only [h2,ne_eq,not_true_eq_false,if_false,if_true]
  refine Ev.bind (r10_Find_ev l n (by omega)) (Ev.bind (below_ev l n (by omega)) ?_)
  by_cases h3:0<(kids l n).length
  · simp only [show (((kids l n).length : Int) > 0) = True from eq_true (by omega), h3, if_true]
    refine Ev.step (f:=fun _=>some ([],13)) (fun k=> ?_) (Ev.now _)
    simp only [r10_Delete.j0,if_true]
    exact hno 13
  simp only [show (((kids l n).length:Int)>0)=False from eq_false (by omega),h3,if_false,hx,fnd_rd hx,eq_true j0,eq_true j1,if_true]
  by_cases h4:x.f3.f0=0∧x.f3.f1=0∧x.f3.f2=0
  rotate_left
  · simp only [h4, if_false]
    refine Ev.step (f:=fun _=>some ([],13)) (fun k=> ?_) (Ev.now _)
    simp only [r10_Delete.j0]
    rw [if_pos]
    · exact hno 13
    by_cases q1:x.f3.f0=0<;>by_cases q2:x.f3.f1=0<;>by_cases q3:x.f3.f2=0<;>simp_all
  obtain ⟨q1,q2,q3⟩:=h4
  simp only [q1,q2,q3,and_self,if_true,beq_self_eq_true,Bool.not_true,Bool.or_self]
  refine Ev.step (f:=fun _=>some (delL l n,0)) (fun k=> ?_) (Ev.now _)
  simp only [r10_Delete.j0]
  have e1:wrap64 (fnd l n+1)=fnd l n+1:=w64 (by omega) (by omega)
  rw [if_neg (by simp),if_pos j0,if_pos (by omega),r10_copied_eq _ (by rw [List.length_take];omega)]
  simp only [Option.bind_some,e1]
  rw [if_pos (by omega),if_pos (by omega),if_pos (by rw [List.length_take,List.length_drop];omega),show (fnd l n+1).toNat=(fnd l n).toNat+1 by omega,cut_delL hl hx]
theorem kids_none {l:List Item} {n:ByteArray} (h: ¬0<(kids l n).length): ∀y∈l,y.f1≠n:=fun y hy e=>h (List.length_pos_of_mem (kids_mem.2 ⟨y,hy,e,rfl⟩))
theorem del_right {l:List Item} (hl:RightP l) {n:ByteArray} {x:Item} (hx:look l n=some x) (hk: ∀y∈l,y.f1≠n) (h0:x.f3.f0=0∧x.f3.f1=0∧x.f3.f2=0):RightP (delL l n):=by
  obtain ⟨hxm,hxn⟩:=look_mem hx
  have hxs: ∀c:Comp,c.of x.f4=0:=fun c=>by
    have:=hl.sum c x hxm
    have e:csum c l x.f0=0:=sumBy_zero fun y hy=>if_neg (by rw [hxn];exact hk y hy)
    have e3:c.of x.f3=0:=by cases c<;>simp [Comp.of,h0]
    omega
  refine ⟨?_,fun y hy=>hl.ok y (mem_delL.1 hy).1,hl.sorted.filter _,fun y hy=> ?_,fun c y hy=> ?_,fun y hy=> ?_⟩
  · exact Nat.le_trans (List.length_filter_le _ _) hl.len
  · obtain ⟨hy1, hy2⟩ := mem_delL.1 hy
    rcases hl.par y hy1 with h|⟨z,hz⟩
    · exact .inl h
    exact .inr ⟨z,by rw [look_delL,if_neg (hk y hy1)];exact hz⟩
  · obtain ⟨hy1, hy2⟩ := mem_delL.1 hy
    rw [hl.sum c y hy1]
    congr 1
    unfold csum delL
    rw [sumBy_filter]
    refine sumBy_congr fun z hz=> ?_
    by_cases e:z.f0=n
    rotate_left
    · simp [e]
    have:z=x:=hl.eq_of hz hxm (e.trans hxn.symm)
    subst this
    simp [e,hxs c]
  obtain ⟨hy1,hy2⟩:=mem_delL.1 hy
  obtain ⟨us,h⟩:=hl.chain y hy1
  refine ⟨us, ?_⟩
  have: ∀{m:ByteArray} {us:List ByteArray},Chain l m us→m≠n→Chain (delL l n) m us:=by
    intro m us h
    induction h with
    |nil q=>intro hm;exact Chain.nil (by rw [look_delL,if_neg hm];exact q)
    | cons q _ ih =>
      intro hm
      refine Chain.cons (by rw [look_delL,if_neg hm];exact q) (ih (hk _ (look_mem q).1))
  exact this h hy2
def updF (us:List ByteArray) (f:Item→Item) (x:Item):Item:=if x.f0∈us then f x else x
theorem updF_name {us:List ByteArray} {f:Item→Item} (hf: ∀x,(f x).f0=x.f0) (x:Item):(updF us f x).f0=x.f0:=by
  unfold updF
  split
  · exact hf x
  rfl
theorem set_upd {l:List Item} (hn:(l.map (·.f0)).Nodup) {s:ByteArray} {x:Item} (h:look l s=some x) (f:Item→Item):l.set (fnd l s).toNat (f x)=l.map (updF [s] f):=by
  rw [set_at hn h]
  refine List.map_congr_left fun z hz=> ?_
  unfold updF
  by_cases e:z.f0=s
  rotate_left
  · rw [if_neg e,if_neg (by simpa using e)]
  rw [if_pos e,if_pos (by simp [e])]
  have h1:=look_of_mem hn hz
  rw [e,h] at h1
  rw [Option.some.inj h1]
theorem upd_cons {us:List ByteArray} {s:ByteArray} (hs:s ∉ us) {f:Item→Item} (hf: ∀x,(f x).f0=x.f0) (l:List Item):(l.map (updF [s] f)).map (updF us f)=l.map (updF (s::us) f):=by
  rw [List.map_map]
  refine List.map_congr_left fun z hz=> ?_
  simp only [Function.comp]
  by_cases e:z.f0=s
  · have e1 : updF [s] f z = f z := by unfold updF; rw [if_pos (by simp [e])]
    rw [e1]
    unfold updF
    rw [if_neg (by rw [hf,e];exact hs),if_pos (by simp [e])]
  have e1:updF [s] f z=z:=by unfold updF;rw [if_neg (by simpa using e)]
  rw [e1]
  unfold updF
  by_cases e2:z.f0∈us
  · rw [if_pos e2,if_pos (List.mem_cons_of_mem _ e2)]
  rw [if_neg e2,if_neg (by simp [e,e2])]
theorem upd_nil (f:Item→Item) (l:List Item):l.map (updF [] f)=l:=by
 rw [show updF [] f=id from by funext z;simp [updF]]
 simp
theorem nodup_upd {us:List ByteArray} {f:Item→Item} (hf: ∀x,(f x).f0=x.f0) {l:List Item} (hn:(l.map (·.f0)).Nodup):((l.map (updF us f)).map (·.f0)).Nodup:=by
 rw [List.map_map,show ((fun x:Item=>x.f0) ∘ updF us f)=(fun x=>x.f0) from by funext z;exact updF_name hf z]
 exact hn
theorem look_upd {us:List ByteArray} {f:Item→Item} (hf: ∀x,(f x).f0=x.f0) (l:List Item) (m:ByteArray):look (l.map (updF us f)) m=(look l m).map (updF us f):=look_map (f:=updF us f) (updF_name hf) l m
theorem shSub_name (op:Vec→Vec) (x:Item):(shSub op x).f0=x.f0:=rfl
theorem shiftF_eq (op:Vec→Vec): ∀(us:List ByteArray) (l:List Item),(l.map (·.f0)).Nodup→us.Nodup→(∀s∈us,∃x,look l s=some x)→shiftF op us l=some (l.map (updF us (shSub op)))
  |[],l,_,_,_=>by rw [upd_nil];rfl
  | s :: us, l, hn, hu, hin => by
    rw [List.nodup_cons] at hu
    obtain ⟨x,hx⟩:=hin s (List.mem_cons_self ..)
    have j0:=fnd_ge.2 ⟨x,hx⟩
    have j1:=fnd_lt l s
    unfold shiftF
    rw [tree_Find_eq]
    simp only [Option.bind_some]
    rw [if_pos ⟨j0,j1⟩,fnd_rd hx,set_upd hn hx,shiftF_eq op us _ (nodup_upd (shSub_name op) hn) hu.2 (fun t ht=>by
      obtain ⟨y,hy⟩:=hin t (List.mem_cons_of_mem _ ht)
      exact ⟨_,by rw [look_upd (shSub_name op),hy];rfl⟩),upd_cons hu.1 (shSub_name op)]
def opA (v u:Vec):Vec:=⟨wrap64 (u.f0+v.f0),wrap64 (u.f1+v.f1),wrap64 (u.f2+v.f2)⟩
theorem mv_l0 {l:List Item} {p:ByteArray} {x:Item} {n:ByteArray} (hx:look l n=some x) (ts us:List ByteArray) (hul:us.length<1000000) {R:List Item×Int}: ∀(d i:Nat) (cur:List Item),us.length - i=d→i≤us.length→cur.length<1000000→(cur.map (·.f0)).Nodup→(us.drop i).Nodup→(∀s∈us.drop i,∃y,look cur s=some y)→
    Ev (fun k=>r10_Move.l1 k l p (fnd l n) ts (cur.map (updF (us.drop i) (shSub (mvSub x.f4)))) 0) R→Ev (fun k=>r10_Move.l0 k l p (fnd l n) ts cur us i) R
  | 0, i, cur, hd, hi, hc, hn, hu, hin, h => by
    obtain rfl:i=us.length:=by omega
    rw [List.drop_length,upd_nil] at h
    refine Ev.step (f:=fun k=>r10_Move.l1 k l p (fnd l n) ts cur 0) (fun k=> ?_) h
    simp only [r10_Move.l0]
    rw [if_neg (by omega)]
  | d + 1, i, cur, hd, hi, hc, hn, hu, hin, h => by
    have hlt:i<us.length:=by omega
    rw [drop_cons hlt] at hu hin h
    rw [List.nodup_cons] at hu
    obtain ⟨y,hy⟩:=hin _ (List.mem_cons_self ..)
    have j0:=fnd_ge.2 ⟨y,hy⟩
    have j1:=fnd_lt cur (rdOf ByteArray.empty us i)
    have i0:=fnd_ge.2 ⟨x,hx⟩
    have i1:=fnd_lt l n
    rw [←upd_cons hu.1 (shSub_name _),←set_upd hn hy] at h
    have ih:=mv_l0 hx ts us hul d (i+1) _ (by omega) (by omega) (by rw [List.length_set];exact hc) (by rw [set_upd hn hy];exact nodup_upd (shSub_name (mvSub x.f4)) hn) hu.2 (fun t ht=>by
      obtain ⟨z,hz⟩:=hin t (List.mem_cons_of_mem _ ht)
      exact ⟨_,by rw [set_upd hn hy,look_upd (shSub_name (mvSub x.f4)),hz];rfl⟩) h
    refine Ev.step (f:=fun k=>(r10_Find.f k cur (rdOf ByteArray.empty us i)).bind fun t=>if 0≤t then (if t<(cur.length:Int) then r10_Move.l0 k l p (fnd l n) ts (cur.set t.toNat (shSub (mvSub x.f4) (rd_T31 cur t))) us ((i+1:Nat):Int) else none) else none) (fun k=> ?_) (Ev.bind (r10_Find_ev _ _ hc) ?_)
    rotate_left
    · simp only [eq_true j0, eq_true j1, if_true, fnd_rd hy]
      exact ih
    simp only [r10_Move.l0]
    rw [if_pos (by omega),if_pos (by omega)]
    simp only [eq_true i0,eq_true i1,if_true,fnd_rd hx]
    rw [w64 (n:=(i:Int)+1) (by omega) (by omega)]
    rfl
def chk (v:Vec) (cur:List Item) (us:List ByteArray):Bool:=us.all fun s=>match look cur s with
 |none=>false
 |some y=>decide (LeP (opA v y.f4) y.f2)
theorem chk_upd {v:Vec} {cur:List Item} {s:ByteArray} {us:List ByteArray} (hs:s ∉ us) {f:Item→Item} (hf: ∀x,(f x).f0=x.f0):chk v (cur.map (updF [s] f)) us=chk v cur us:=by
  unfold chk
  rw [Bool.eq_iff_iff,List.all_eq_true,List.all_eq_true]
  have e: ∀t∈us,look (cur.map (updF [s] f)) t=look cur t:=fun t ht=>by
    rw [look_upd hf]
    cases q:look cur t with
    |none=>rfl
    | some y =>
      obtain ⟨_,hy⟩:=look_mem q
      show some (updF [s] f y)=some y
      unfold updF
      rw [if_neg (by rw [hy];simp;rintro rfl;exact hs ht)]
  constructor<;>(intro h t ht;have:=h t ht;first|(rw [e t ht] at this;exact this)|(rw [e t ht];exact this))
def finM (l:List Item) (j:Int) (p:ByteArray):List Item:=l.set j.toNat ⟨(rd_T31 l j).f0,p,(rd_T31 l j).f2,(rd_T31 l j).f3,(rd_T31 l j).f4,wrap64 ((rd_T31 l j).f5+1)⟩
theorem mv_l1 {l:List Item} {p:ByteArray} {x:Item} {n:ByteArray} (hx:look l n=some x) (us:List ByteArray) (hul:us.length<1000000): ∀(d i:Nat) (cur:List Item),us.length - i=d→i≤us.length→cur.length<1000000→cur.length=l.length→(cur.map (·.f0)).Nodup→(us.drop i).Nodup→(∀s∈us.drop i,∃y,look cur s=some y)→
    Ev (fun k=>r10_Move.l1 k l p (fnd l n) us cur i) (if chk x.f4 cur (us.drop i)=true then (finM (cur.map (updF (us.drop i) (shSub (opA x.f4)))) (fnd l n) p,0) else ([],12))
  | 0, i, cur, hd, hi, hc, hcl, hn, hu, hin => by
    obtain rfl:i=us.length:=by omega
    have i0:=fnd_ge.2 ⟨x,hx⟩
    have i1:=fnd_lt l n
    rw [List.drop_length,upd_nil,if_pos (show chk x.f4 cur []=true from rfl)]
    refine Ev.step (f:=fun _=>some (finM cur (fnd l n) p,0)) (fun k=> ?_) (Ev.now _)
    simp only [r10_Move.l1]
    rw [if_neg (by omega),if_pos i0,if_pos (by omega)]
    simp only [Option.bind_some]
    rw [rd_set i0 (by omega),List.set_set]
    rfl
  | d + 1, i, cur, hd, hi, hc, hcl, hn, hu, hin => by
    have hlt:i<us.length:=by omega
    rw [drop_cons hlt] at hu hin ⊢
    rw [List.nodup_cons] at hu
    obtain ⟨y,hy⟩:=hin _ (List.mem_cons_self ..)
    have j0:=fnd_ge.2 ⟨y,hy⟩
    have j1:=fnd_lt cur (rdOf ByteArray.empty us i)
    have i0:=fnd_ge.2 ⟨x,hx⟩
    have i1:=fnd_lt l n
    have ih:=mv_l1 (p:=p) hx us hul d (i+1) (cur.set (fnd cur (rdOf ByteArray.empty us i)).toNat (shSub (opA x.f4) y)) (by omega) (by omega) (by rw [List.length_set];exact hc) (by rw [List.length_set];exact hcl) (by rw [set_upd hn hy];exact nodup_upd (shSub_name (opA x.f4)) hn) hu.2 (fun t ht=>by
      obtain ⟨z,hz⟩:=hin t (List.mem_cons_of_mem _ ht)
      exact ⟨_,by rw [set_upd hn hy,look_upd (shSub_name (opA x.f4)),hz];rfl⟩)
    have hck:chk x.f4 cur (rdOf ByteArray.empty us i::us.drop (i+1))=(decide (LeP (opA x.f4 y.f4) y.f2) && chk x.f4 cur (us.drop (i+1))):=by
      unfold chk
      rw [List.all_cons,hy]
    refine Ev.step (f:=fun k=>(r10_Find.f k cur (rdOf ByteArray.empty us i)).bind fun t=>if 0≤t then (if t<(cur.length:Int) then (r10_Le.f (rd_T31 (cur.set t.toNat (shSub (opA x.f4) (rd_T31 cur t))) t).f4.f0 (rd_T31 (cur.set t.toNat (shSub (opA x.f4) (rd_T31 cur t))) t).f4.f1 (rd_T31 (cur.set t.toNat (shSub (opA x.f4) (rd_T31 cur t))) t).f4.f2 (rd_T31 (cur.set t.toNat (shSub (opA x.f4) (rd_T31 cur t))) t).f2.f0 (rd_T31 (cur.set t.toNat (shSub (opA x.f4) (rd_T31 cur t))) t).f2.f1 (rd_T31 (cur.set t.toNat (shSub (opA x.f4) (rd_T31 cur t))) t).f2.f2).bind fun b=>if b=true then r10_Move.l1 k l p (fnd l n) us (cur.set t.toNat (shSub (opA x.f4) (rd_T31 cur t))) ((i+1:Nat):Int) else some ([],12) else none) else none) (fun k=> ?_) (Ev.bind (r10_Find_ev _ _ hc) ?_)
    · simp only [r10_Move.l1]
      rw [if_pos (by omega),if_pos (by omega)]
      simp only [eq_true i0,eq_true i1,if_true,fnd_rd hx]
      rw [w64 (n:=(i:Int)+1) (by omega) (by omega)]
      rfl
    simp only [eq_true j0,eq_true j1,if_true,fnd_rd hy,rd_set j0 j1,r10_Le_eq,Option.bind_some,shSub]
    rw [hck]
    by_cases hle:LeP (opA x.f4 y.f4) y.f2
    rotate_left
    · rw [decide_eq_false hle, Bool.false_and, if_neg (by simp)]
      exact Ev.congr (fun k=>if_neg (by simp)) (Ev.now _)
    rw [decide_eq_true hle,Bool.true_and]
    refine Ev.congr (fun k=>if_pos rfl) ?_
    rw [show chk x.f4 (cur.set (fnd cur (rdOf ByteArray.empty us i)).toNat (shSub (opA x.f4) y)) (us.drop (i+1))=chk x.f4 cur (us.drop (i+1)) from by rw [set_upd hn hy,chk_upd hu.1 (shSub_name _)],
      show (cur.set (fnd cur (rdOf ByteArray.empty us i)).toNat (shSub (opA x.f4) y)).map (updF (us.drop (i+1)) (shSub (opA x.f4)))=cur.map (updF (rdOf ByteArray.empty us i::us.drop (i+1)) (shSub (opA x.f4))) from by rw [set_upd hn hy,upd_cons hu.1 (shSub_name _)]] at ih
    exact ih
theorem contains_ev (l:List ByteArray) (s:ByteArray) (hl:l.length<1000000):Ev (fun k=>slices_Contains_string_string.f k l s) (hasStr l s):=by
 obtain ⟨r,h1,h2⟩:=index_some l s (by omega) l.length 0 (by omega) (by omega)
 refine Ev.of (fun k=>slices_Contains_string_string.mono l s k) (k:=l.length+1) ?_
 unfold slices_Contains_string_string.f slices_Index_string_string.f
 rw [show slices_Index_string_string.l0 (l.length+1) l s (l.length:Int) 0=some r from h1]
 simp only [Option.bind_some]
 rw [h2,List.drop_zero]
theorem hasStr_iff {l:List ByteArray} {s:ByteArray}:hasStr l s=true↔s∈l:=by
  unfold hasStr
  rw [List.any_eq_true]
  constructor
  · rintro ⟨x, hx, e⟩
    rw [nm_inj.1 (of_decide_eq_true e)]
    exact hx
  intro h
  exact ⟨s,h,decide_eq_true rfl⟩
def SmP (v:Vec):Prop:= ∀c:Comp, -2199023255552≤c.of v∧c.of v≤2199023255552
theorem MayP.sm {v:Vec} (h:MayP v):SmP v:=fun c=>by have:=h c;omega
theorem mvSub_eq {v u:Vec} (hv:MayP v) (hu:MayP u):mvSub v u=vsub u v:=by
 have a0:=hv .cpu;have a1:=hv .mem;have a2:=hv .pods
 have b0:=hu .cpu;have b1:=hu .mem;have b2:=hu .pods
 simp only [Comp.of] at a0 a1 a2 b0 b1 b2
 unfold mvSub vsub
 rw [w64 (by omega) (by omega),w64 (by omega) (by omega),w64 (by omega) (by omega)]
theorem vsub_sm {v u:Vec} (hv:MayP v) (hu:MayP u):SmP (vsub u v):=fun c=>by
 have a:=hv c;have b:=hu c
 rw [of_vsub];omega
theorem opA_eq {v u:Vec} (hv:MayP v) (hu:SmP u):opA v u=vadd u v:=by
 have a0:=hv .cpu;have a1:=hv .mem;have a2:=hv .pods
 have b0:=hu .cpu;have b1:=hu .mem;have b2:=hu .pods
 simp only [Comp.of] at a0 a1 a2 b0 b1 b2
 unfold opA vadd
 rw [w64 (by omega) (by omega),w64 (by omega) (by omega),w64 (by omega) (by omega)]
theorem mvAdd_eq {v u:Vec} (hv:MayP v) (hu:SmP u):mvAdd v u=vadd u v:=by
 have a0:=hv .cpu;have a1:=hv .mem;have a2:=hv .pods
 have b0:=hu .cpu;have b1:=hu .mem;have b2:=hu .pods
 simp only [Comp.of] at a0 a1 a2 b0 b1 b2
 unfold mvAdd vec_Add.f
 simp only [vecByF,Option.getD_some]
 unfold vadd
 rw [w64 (n:=0+u.f0) (by omega) (by omega),w64 (n:=0+u.f1) (by omega) (by omega),w64 (n:=0+u.f2) (by omega) (by omega),w64 (by omega) (by omega),w64 (by omega) (by omega),w64 (by omega) (by omega)]
 simp
def mvS (fs ts:List ByteArray) (v:Vec) (z:Item):Vec:=if z.f0∈ts then vadd (if z.f0∈fs then vsub z.f4 v else z.f4) v else if z.f0∈fs then vsub z.f4 v else z.f4
def movG (n p:ByteArray) (fs ts:List ByteArray) (v:Vec) (z:Item):Item:=⟨z.f0,if z.f0=n then p else z.f1,z.f2,z.f3,mvS fs ts v z,if z.f0=n then z.f5+1 else z.f5⟩
def movL (l:List Item) (n p:ByteArray) (x:Item):List Item:=l.map (movG n p (up l x.f1) (up l p) x.f4)
def movB (l:List Item) (x:Item) (p:ByteArray):Bool:=(up l p).all fun s=>hasStr (up l x.f1) s||match look l s with
 |none=>false
 |some y=>decide (LeP (vadd y.f4 x.f4) y.f2)
def movR (l:List Item) (n p:ByteArray) (ver:Int):List Item×Int:=
 if oldR l n ver≠0 then ([],oldR l n ver) else if p≠⟨#[]⟩∧(look l p).isNone=true then ([],2) else if n∈up l p then ([],10) else match look l n with
  |none=>([],2)
  |some x=>if 9007199254740992≤x.f5 then ([],4) else if movB l x p=true then (movL l n p x,0) else ([],12)
theorem mv_in {l:List Item} (hl:RightP l) {m s:ByteArray} (h:s∈up l m): ∃x,look l s=some x:=(hl.chainAll m).mem_look h
theorem not_own_way {l:List Item} (hl:RightP l) {n:ByteArray} {x:Item} (hx:look l n=some x):n ∉ up l x.f1:=by
 have h:=(Chain.cons hx (hl.chainAll x.f1)).nodup
 rw [List.nodup_cons] at h
 exact h.1
theorem way_len {l:List Item} (hl:RightP l) (m:ByteArray):(up l m).length<1000000:=by
 have:=up_len l m
 have:=hl.len
 omega
theorem fits_ev {l:List Item} (hl:RightP l) {x:Item} (hx:MayP x.f4) (fs:List ByteArray) (hf:fs.length<1000000): ∀us:List ByteArray,(∀s∈us,∃y,look l s=some y)→Ev (fun k=>fitsF k l fs x.f4 us) (us.all fun s=>hasStr fs s||match look l s with
  |none=>false
  |some y=>decide (LeP (vadd y.f4 x.f4) y.f2))
  |[],_=>Ev.now _
  | s :: us, hin => by
    obtain ⟨y,hy⟩:=hin s (List.mem_cons_self ..)
    have j0:=fnd_ge.2 ⟨y,hy⟩
    have j1:=fnd_lt l s
    have ih:=fits_ev hl hx fs hf us (fun t ht=>hin t (List.mem_cons_of_mem _ ht))
    have hya:=mvAdd_eq hx (hl.ok y (look_mem hy).1).sub.sm
    unfold fitsF
    simp only [tree_Find_eq,Option.bind_some,eq_true j0,eq_true j1,true_and,if_true,fnd_rd hy,hya]
    refine Ev.bind (contains_ev fs s hf) ?_
    rw [List.all_cons,hy]
    cases hasStr fs s with
    | true =>
      simp only [if_true,Bool.true_or,Bool.true_and]
      exact ih
    | false =>
      simp only [Bool.false_or,sh_Le_eq,Option.bind_some]
      by_cases hle:LeP (vadd y.f4 x.f4) y.f2
      · rw [decide_eq_true (show LeP ⟨(vadd y.f4 x.f4).f0, (vadd y.f4 x.f4).f1, (vadd y.f4 x.f4).f2⟩ ⟨y.f2.f0, y.f2.f1, y.f2.f2⟩ from hle), Bool.true_and]
        simp only [Bool.false_eq_true,if_false,if_true]
        exact ih
      rw [decide_eq_false (show¬LeP ⟨(vadd y.f4 x.f4).f0,(vadd y.f4 x.f4).f1,(vadd y.f4 x.f4).f2⟩ ⟨y.f2.f0,y.f2.f1,y.f2.f2⟩ from hle),Bool.false_and]
      simp only [Bool.false_eq_true,if_false]
      exact Ev.now _
theorem set_one {l:List Item} (hn:(l.map (·.f0)).Nodup) {n:ByteArray} {x:Item} (h:look l n=some x) {f:Item→Item} {y:Item} (hy:y=f x):l.set (fnd l n).toNat y=l.map (updF [n] f):=by
 rw [hy]
 exact set_upd hn h f
theorem mov_prog {l:List Item} (hl:RightP l) {n p:ByteArray} {x:Item} (hx:look l n=some x) (hnt:n ∉ up l p):
    let l4:=((l.set (fnd l n).toNat (⟨x.f0,x.f1,x.f2,x.f3,x.f4,x.f5+1⟩:Item)).map (updF (up l x.f1) (shSub (mvSub x.f4)))).map (updF (up l p) (shSub (mvAdd x.f4)))
    l4.set (fnd l n).toNat (parF p (rd_T31 l4 (fnd l n)))=movL l n p x:=by
  intro l4
  obtain ⟨hxm,hxn⟩:=look_mem hx
  have hxs:=(hl.ok x hxm).sub
  have hnf:=not_own_way hl hx
  have hver: ∀z:Item,(⟨z.f0,z.f1,z.f2,z.f3,z.f4,z.f5+1⟩:Item).f0=z.f0:=fun _=>rfl
  have e2:l.set (fnd l n).toNat (⟨x.f0,x.f1,x.f2,x.f3,x.f4,x.f5+1⟩:Item)=l.map (updF [n] fun z=>⟨z.f0,z.f1,z.f2,z.f3,z.f4,z.f5+1⟩):=set_one (f:=fun z=>⟨z.f0,z.f1,z.f2,z.f3,z.f4,z.f5+1⟩) hl.nodup hx rfl
  have e4:l4=l.map fun z=>updF (up l p) (shSub (mvAdd x.f4)) (updF (up l x.f1) (shSub (mvSub x.f4)) (updF [n] (fun z=>⟨z.f0,z.f1,z.f2,z.f3,z.f4,z.f5+1⟩) z)):=by
    show ((l.set _ _).map _).map _=_
    rw [e2,List.map_map,List.map_map]
    rfl
  have hname: ∀z:Item,(updF (up l p) (shSub (mvAdd x.f4)) (updF (up l x.f1) (shSub (mvSub x.f4)) (updF [n] (fun z=>⟨z.f0,z.f1,z.f2,z.f3,z.f4,z.f5+1⟩) z))).f0=z.f0:=fun z=>by
    rw [updF_name (shSub_name _),updF_name (shSub_name _),updF_name hver]
  have hn4:(l4.map (·.f0)).Nodup:=by
    rw [e4,List.map_map]
    rw [show ((fun x:Item=>x.f0) ∘ fun z=>updF (up l p) (shSub (mvAdd x.f4)) (updF (up l x.f1) (shSub (mvSub x.f4)) (updF [n] (fun z=>⟨z.f0,z.f1,z.f2,z.f3,z.f4,z.f5+1⟩) z)))=(fun x=>x.f0) from funext hname]
    exact hl.nodup
  have hlk:=look_map hname l n
  rw [hx,←e4] at hlk
  have hf4:fnd l4 n=fnd l n:=by rw [e4];exact fnd_map hname l n
  rw [←hf4,fnd_rd hlk,set_upd hn4 hlk (parF p),e4,List.map_map]
  unfold movL
  refine List.map_congr_left fun z hz=> ?_
  have hzs:=(hl.ok z hz).sub
  simp only [Function.comp]
  by_cases e:z.f0=n
  · have q1 : z.f0 ∉ up l x.f1 := by rw [e]; exact hnf
    have q2:z.f0 ∉ up l p:=by rw [e];exact hnt
    simp [updF,movG,mvS,parF,e,hnf,hnt]
  have ev:mvSub x.f4 z.f4=vsub z.f4 x.f4:=mvSub_eq hxs hzs
  have ea:mvAdd x.f4 z.f4=vadd z.f4 x.f4:=mvAdd_eq hxs hzs.sm
  have ea2:mvAdd x.f4 (vsub z.f4 x.f4)=vadd (vsub z.f4 x.f4) x.f4:=mvAdd_eq hxs (vsub_sm hxs hzs)
  by_cases q1:z.f0∈up l x.f1<;>by_cases q2:z.f0∈up l p<;>simp [updF,movG,mvS,shSub,e,q1,q2,ev,ea,ea2]
theorem mov_doc {l:List Item} (hl:RightP l) {n p:ByteArray} {x:Item} (hx:look l n=some x) (hnt:n ∉ up l p):
    finM ((l.map (updF (up l x.f1) (shSub (mvSub x.f4)))).map (updF (up l p) (shSub (opA x.f4)))) (fnd l n) p=movL l n p x:=by
  obtain ⟨hxm,hxn⟩:=look_mem hx
  have hxs:=(hl.ok x hxm).sub
  have hnf:=not_own_way hl hx
  have e4:(l.map (updF (up l x.f1) (shSub (mvSub x.f4)))).map (updF (up l p) (shSub (opA x.f4)))=l.map fun z=>updF (up l p) (shSub (opA x.f4)) (updF (up l x.f1) (shSub (mvSub x.f4)) z):=by
    rw [List.map_map]
    rfl
  have hname: ∀z:Item,(updF (up l p) (shSub (opA x.f4)) (updF (up l x.f1) (shSub (mvSub x.f4)) z)).f0=z.f0:=fun z=>by
    rw [updF_name (shSub_name _),updF_name (shSub_name _)]
  rw [e4]
  have hn4:((l.map fun z=>updF (up l p) (shSub (opA x.f4)) (updF (up l x.f1) (shSub (mvSub x.f4)) z)).map (·.f0)).Nodup:=by
    rw [List.map_map,show ((fun x:Item=>x.f0) ∘ fun z=>updF (up l p) (shSub (opA x.f4)) (updF (up l x.f1) (shSub (mvSub x.f4)) z))=(fun x=>x.f0) from funext hname]
    exact hl.nodup
  have hlk:=look_map hname l n
  rw [hx] at hlk
  have hf4:=fnd_map hname l n
  unfold finM
  rw [←hf4,fnd_rd hlk]
  rw [set_one (f:=fun z=>⟨z.f0,p,z.f2,z.f3,z.f4,wrap64 (z.f5+1)⟩) hn4 hlk rfl,List.map_map]
  unfold movL
  refine List.map_congr_left fun z hz=> ?_
  have hzs:=(hl.ok z hz).sub
  simp only [Function.comp]
  by_cases e:z.f0=n
  · have hw := ver_step (hl.ok z hz)
    simp [updF,movG,mvS,e,hnf,hnt,hw]
  have ev:mvSub x.f4 z.f4=vsub z.f4 x.f4:=mvSub_eq hxs hzs
  have ea:opA x.f4 z.f4=vadd z.f4 x.f4:=opA_eq hxs hzs.sm
  have ea2:opA x.f4 (vsub z.f4 x.f4)=vadd (vsub z.f4 x.f4) x.f4:=opA_eq hxs (vsub_sm hxs hzs)
  by_cases q1:z.f0∈up l x.f1<;>by_cases q2:z.f0∈up l p<;>simp [updF,movG,mvS,shSub,e,q1,q2,ev,ea,ea2]
theorem chk_movB {l:List Item} (hl:RightP l) {n p:ByteArray} {x:Item} (hx:look l n=some x):chk x.f4 (l.map (updF (up l x.f1) (shSub (mvSub x.f4)))) (up l p)=movB l x p:=by
  obtain ⟨hxm,hxn⟩:=look_mem hx
  have hxs:=(hl.ok x hxm).sub
  unfold chk movB
  rw [Bool.eq_iff_iff,List.all_eq_true,List.all_eq_true]
  have key: ∀s∈up l p,(match look (l.map (updF (up l x.f1) (shSub (mvSub x.f4)))) s with|none=>false|some y=>decide (LeP (opA x.f4 y.f4) y.f2))=(hasStr (up l x.f1) s||match look l s with|none=>false|some y=>decide (LeP (vadd y.f4 x.f4) y.f2)):=by
    intro s hs
    obtain ⟨y,hy⟩:=mv_in hl hs
    obtain ⟨hym,hyn⟩:=look_mem hy
    have hys:=hl.ok y hym
    rw [look_upd (shSub_name _),hy]
    show decide (LeP (opA x.f4 (updF (up l x.f1) (shSub (mvSub x.f4)) y).f4) (updF (up l x.f1) (shSub (mvSub x.f4)) y).f2)=_
    by_cases q:s∈up l x.f1
    rotate_left
    · have e : updF (up l x.f1) (shSub (mvSub x.f4)) y = y := by unfold updF; rw [if_neg (by rw [hyn]; exact q)]
      have hq:hasStr (up l x.f1) s=false:=by
        cases h:hasStr (up l x.f1) s with
        |false=>rfl
        |true=>exact absurd (hasStr_iff.1 h) q
      rw [e,hq,Bool.false_or,opA_eq hxs hys.sub.sm]
    have e:updF (up l x.f1) (shSub (mvSub x.f4)) y=shSub (mvSub x.f4) y:=by unfold updF;rw [if_pos (by rw [hyn];exact q)]
    rw [e,hasStr_iff.2 q,Bool.true_or]
    refine decide_eq_true ?_
    show LeP (opA x.f4 (mvSub x.f4 y.f4)) y.f2
    rw [mvSub_eq hxs hys.sub,opA_eq hxs (vsub_sm hxs hys.sub)]
    intro c
    have:=hys.fit c
    rw [of_vadd,of_vsub]
    omega
  constructor
  · intro h s hs
    exact (key s hs).symm.trans (h s hs)
  intro h s hs
  exact (key s hs).trans (h s hs)
theorem movR_eq {l:List Item} {n p:ByteArray} {ver:Int} {x:Item} (h2:oldR l n ver=0) (hx:look l n=some x) (h3: ¬(p≠⟨#[]⟩∧(look l p).isNone=true)) (h4:n ∉ up l p):movR l n p ver=if 9007199254740992≤x.f5 then ([],4) else if movB l x p=true then (movL l n p x,0) else ([],12):=by
 unfold movR
 rw [if_neg (by simpa using h2),if_neg h3,if_neg h4]
 simp only [hx]
theorem hasStr_false {l:List ByteArray} {s:ByteArray} (h:s ∉ l):hasStr l s=false:=by
 cases q:hasStr l s with
 |false=>rfl
 |true=>exact absurd (hasStr_iff.1 q) h
theorem shape_Move_ev {l:List Item} (hl:RightP l) (n p:ByteArray) (ver:Int):Ev (fun k=>shape_Move.f k l n p ver) (movR l n p ver):=by
  have hlen:=hl.len
  unfold shape_Move.f
  rw [shape_made_eq l n (by omega)]
  simp only [Option.bind_some,guardF_eq]
  by_cases h2:oldR l n ver=0
  rotate_left
  · unfold movR
    simp only [h2,ne_eq,not_false_eq_true,if_true]
    exact Ev.now _
  obtain ⟨x,hx,_⟩:=oldR_zero h2
  have hxm:=(look_mem hx).1
  simp only [h2,ne_eq,not_true_eq_false,if_false]
  refine Ev.bind (tree_Up_ev l p (by omega)) ?_
  simp only [shape_parent_eq,Option.bind_some]
  by_cases h3:p≠⟨#[]⟩∧(look l p).isNone=true
  · unfold movR
    rw [if_neg (by simpa using h2),if_pos h3]
    exact Ev.congr (fun k=>if_pos (by simpa using h3)) (Ev.now _)
  refine Ev.congr (fun k=>if_neg (by simpa using h3)) ?_
  refine Ev.bind (contains_ev _ _ (way_len hl p)) ?_
  by_cases h4:n∈up l p
  · unfold movR
    rw [if_neg (by simpa using h2),if_neg h3,if_pos h4,hasStr_iff.2 h4]
    exact Ev.congr (fun k=>if_pos rfl) (Ev.now _)
  rw [movR_eq h2 hx h3 h4,hasStr_false h4]
  refine Ev.congr (fun k=>if_neg (by simp)) ?_
  rw [olderF_eq hl hx]
  by_cases h5:9007199254740992≤x.f5
  · simp only [h5, if_true, Option.bind_some]
    exact Ev.congr (fun k=>if_pos (by simp)) (Ev.now _)
  simp only [h5,if_false,Option.bind_some]
  refine Ev.congr (fun k=>if_neg (by simp)) ?_
  have j0:=fnd_ge.2 ⟨x,hx⟩
  have j1:=fnd_lt l n
  simp only [rd_set j0 j1]
  refine Ev.bind (tree_Up_ev l x.f1 (by omega)) ?_
  have hf:Ev (fun k=>fitsF k l (up l x.f1) x.f4 (up l p)) (movB l x p):=fits_ev hl (hl.ok x hxm).sub (up l x.f1) (way_len hl _) (up l p) (fun s hs=>mv_in hl hs)
  refine Ev.bind hf ?_
  cases movB l x p with
  |false=>exact Ev.congr (fun k=>if_pos rfl) (Ev.now _)
  | true =>
    refine Ev.congr (fun k=>if_neg (by simp)) ?_
    have hver: ∀z:Item,(⟨z.f0,z.f1,z.f2,z.f3,z.f4,z.f5+1⟩:Item).f0=z.f0:=fun _=>rfl
    have e2:l.set (fnd l n).toNat (⟨x.f0,x.f1,x.f2,x.f3,x.f4,x.f5+1⟩:Item)=l.map (updF [n] fun z=>⟨z.f0,z.f1,z.f2,z.f3,z.f4,z.f5+1⟩):=set_one (f:=fun z=>⟨z.f0,z.f1,z.f2,z.f3,z.f4,z.f5+1⟩) hl.nodup hx rfl
    have hn2:((l.set (fnd l n).toNat (⟨x.f0,x.f1,x.f2,x.f3,x.f4,x.f5+1⟩:Item)).map (·.f0)).Nodup:=by rw [e2];exact nodup_upd hver hl.nodup
    have hs1:=shiftF_eq (mvSub x.f4) (up l x.f1) _ hn2 (hl.chainAll _).nodup (fun s hs=>by
      obtain ⟨y,hy⟩:=mv_in hl hs
      exact ⟨_,by rw [e2,look_upd hver,hy];rfl⟩)
    have hs2:=shiftF_eq (mvAdd x.f4) (up l p) _ (nodup_upd (shSub_name (mvSub x.f4)) hn2) (hl.chainAll _).nodup (fun s hs=>by
      obtain ⟨y,hy⟩:=mv_in hl hs
      exact ⟨_,by rw [look_upd (us:=up l x.f1) (shSub_name (mvSub x.f4)),e2,look_upd (us:=[n]) hver,hy];rfl⟩)
    simp only [if_true]
    refine Ev.const ?_
    rw [hs1]
    simp only [Option.bind_some]
    rw [hs2]
    simp only [Option.bind_some]
    exact congrArg (fun q=>some (q,(0:Int))) (mov_prog hl hx h4)
theorem r10_Move_ev {l:List Item} (hl:RightP l) (n p:ByteArray) (ver:Int):Ev (fun k=>r10_Move.f k l n p ver) (movR l n p ver):=by
  have hlen:=hl.len
  have hno: ∀e:Int,((r10_no.f e).bind fun bt=>some (bt.1,bt.2))=some (([]:List Item),e):=fun _=>rfl
  refine Ev.bind (r10_old_ev l n ver (by omega)) ?_
  by_cases h2:oldR l n ver=0
  rotate_left
  · unfold movR
    rw [if_pos h2]
    refine Ev.congr (fun k=>if_neg h2) ?_
    exact Ev.const (hno _)
  obtain ⟨x,hx,_⟩:=oldR_zero h2
  have j0:=fnd_ge.2 ⟨x,hx⟩
  have j1:=fnd_lt l n
  rw [h2]
  refine Ev.congr (fun k=>if_pos rfl) (Ev.bind (r10_Find_ev l n (by omega)) (Ev.bind (r10_Up_ev l p (by omega)) ?_))
  have hj0: ∀b,b=decide (p≠⟨#[]⟩∧(look l p).isNone=true)→Ev (fun k=>r10_Move.j0 k l n p (fnd l n) (up l p) b) (movR l n p ver):=by
    rintro b rfl
    by_cases h3:p≠⟨#[]⟩∧(look l p).isNone=true
    · refine Ev.step (f := fun _ => some ([], 2)) (fun k => ?_) ?_
      · simp only [r10_Move.j0]
        rw [if_pos (decide_eq_true h3)]
        exact hno 2
      unfold movR
      rw [if_neg (by simpa using h2),if_pos h3]
      exact Ev.now _
    refine Ev.step (f:=fun k=>(r10_in.f k (up l p) n).bind fun t15=>if t15=true then some ([],10) else if x.f5≥9007199254740992 then some ([],4) else (r10_Up.f k l x.f1).bind fun t29=>r10_Move.l0 k l p (fnd l n) (up l p) l t29 0) (fun k=> ?_) (Ev.bind (r10_in_ev _ _ (way_len hl p)) ?_)
    · simp only [r10_Move.j0]
      rw [if_neg (by simpa using h3),fnd_rd hx,r10_copied_eq l (by omega)]
      simp only [eq_true j0,eq_true j1,if_true,Option.bind_some]
      rfl
    by_cases h4:n∈up l p
    · unfold movR
      rw [if_neg (by simpa using h2),if_neg h3,if_pos h4,hasStr_iff.2 h4]
      exact Ev.congr (fun k=>if_pos rfl) (Ev.now _)
    rw [movR_eq h2 hx h3 h4,hasStr_false h4]
    refine Ev.congr (fun k=>if_neg (by simp)) ?_
    by_cases h5:9007199254740992≤x.f5
    · rw [if_pos h5]
      exact Ev.congr (fun k=>if_pos h5) (Ev.now _)
    rw [if_neg h5]
    refine Ev.congr (fun k=>if_neg h5) (Ev.bind (r10_Up_ev l x.f1 (by omega)) ?_)
    refine mv_l0 hx (up l p) (up l x.f1) (way_len hl _) _ 0 l rfl (by omega) (by omega) hl.nodup (by rw [List.drop_zero];exact (hl.chainAll _).nodup) (by rw [List.drop_zero];exact fun s hs=>mv_in hl hs) ?_
    rw [List.drop_zero]
    have hin2: ∀s∈up l p,∃y,look (l.map (updF (up l x.f1) (shSub (mvSub x.f4)))) s=some y:=fun s hs=>by
      obtain ⟨y,hy⟩:=mv_in hl hs
      exact ⟨_,by rw [look_upd (shSub_name _),hy];rfl⟩
    have h6:=mv_l1 (p:=p) hx (up l p) (way_len hl p) _ 0 (l.map (updF (up l x.f1) (shSub (mvSub x.f4)))) rfl (by omega) (by rw [List.length_map];omega) (by rw [List.length_map]) (nodup_upd (shSub_name _) hl.nodup) (by rw [List.drop_zero];exact (hl.chainAll _).nodup) (by rw [List.drop_zero];exact hin2)
    rw [List.drop_zero,chk_movB hl hx,mov_doc hl hx h4] at h6
    exact h6
  by_cases hp:p=⟨#[]⟩
  · refine Ev.congr (fun k => if_pos (nm_empty.2 hp)) (hj0 _ ?_)
    rw [eq_comm,decide_eq_false_iff_not]
    exact fun h=>h.1 hp
  refine Ev.congr (fun k=>if_neg (fun e=>hp (nm_empty.1 e))) (hj0 _ ?_)
  cases q:look l p with
  | none =>
    rw [show up l p=[] from upGo_none q _]
    simp [hp]
  | some y =>
    have:=List.length_pos_of_mem (up_self q)
    simp only [Option.isNone_some,Bool.false_eq_true,and_false,decide_false]
    exact beq_eq_false_iff_ne.2 (by omega)
theorem sumBy_ge {g:Item→Int}: ∀{l:List Item},(∀x∈l,0≤g x)→ ∀{x:Item},x∈l→g x≤sumBy g l
  |[],_,_,h=>by cases h
  | y :: l, hn, x, hx => by
    rw [sumBy_cons]
    have h0:=hn y (by simp)
    have h1:=sumBy_nonneg (g:=g) (l:=l) (fun z hz=>hn z (by simp [hz]))
    rcases List.mem_cons.1 hx with rfl|hx
    · omega
    have:=sumBy_ge (g:=g) (l:=l) (fun z hz=>hn z (by simp [hz])) hx
    omega
theorem child_le {l:List Item} (hl:RightP l) {x y:Item} (hx:x∈l) (hy:look l x.f1=some y) (c:Comp):c.of x.f4≤c.of y.f4:=by
  obtain ⟨hy1,hy2⟩:=look_mem hy
  have h1:=hl.sum c y hy1
  have h2:=((hl.ok y hy1).own c).1
  have h3:c.of x.f4≤csum c l y.f0:=by
    have:=sumBy_ge (g:=fun z=>if z.f1=y.f0 then c.of z.f4 else 0) (l:=l) (fun z hz=>by
      show 0≤(if z.f1=y.f0 then c.of z.f4 else 0)
      split
      · exact ((hl.ok z hz).sub c).1
      omega) hx
    rw [if_pos hy2.symm] at this
    exact this
  omega
theorem sub_up' {l:List Item} (hl:RightP l) (c:Comp) {n:ByteArray} {us:List ByteArray} (h:Chain l n us): ∀{x:Item},look l n=some x→ ∀{z:Item},z∈l→z.f0∈us→c.of x.f4≤c.of z.f4:=by
  induction h with
  |nil h=>intro x _ z _ hz;cases hz
  | @cons n x us h k ih =>
    intro x' hx' z hz hm
    rw [h] at hx'
    obtain rfl:=Option.some.inj hx'
    obtain ⟨hx,hn⟩:=look_mem h
    rcases List.mem_cons.1 hm with e|hm
    · obtain rfl := hl.eq_of hz hx (e.trans hn.symm)
      omega
    cases k with
    |nil _=>cases hm
    | @cons _ y _ hy k =>
      have h1:=child_le hl hx hy c
      have h2:=ih hy hz hm
      omega
theorem sub_up {l:List Item} (hl:RightP l) {x z:Item} (hx:x∈l) (hz:z∈l) (hm:z.f0∈up l x.f0) (c:Comp):c.of x.f4≤c.of z.f4:=sub_up' hl c (hl.chainAll x.f0) (hl.look hx) hz hm
def doR (l:List Item) (kd:Int) (n p:ByteArray) (v:Vec) (ver:Int):List Item×Int:=
 if kd=1 then creR l n p v else if kd=2 then limR l n v ver else if kd=3 then movR l n p ver else if kd=4 then delR l n ver else ([],1)
theorem shape_Do_ev {l:List Item} (hl:RightP l) (kd:Int) (n p:ByteArray) (v:Vec) (ver:Int):Ev (fun k=>shape_Do.f k l kd n p v.f0 v.f1 v.f2 ver) (doR l kd n p v ver):=by
  have hlen:=hl.len
  unfold shape_Do.f doR
  by_cases h1:kd=1
  · simp only [h1, if_true]
    refine Ev.const ?_
    rw [shape_Create_eq (by omega)]
    rfl
  by_cases h2:kd=2
  · simp only [h1, h2, if_false, if_true]
    refine Ev.const ?_
    rw [shape_Limit_eq hl]
    rfl
  by_cases h3:kd=3
  · simp only [h1, h2, h3, if_false, if_true]
    exact Ev.bind (shape_Move_ev hl n p ver) (Ev.now _)
  by_cases h4:kd=4
  · simp only [h1, h2, h3, h4, if_false, if_true]
    exact Ev.bind (shape_Delete_ev hl n ver) (Ev.now _)
  simp only [h1,h2,h3,h4,if_false]
  exact Ev.now _
theorem r10_Do_ev {l:List Item} (hl:RightP l) (kd:Int) (n p:ByteArray) (v:Vec) (ver:Int):Ev (fun k=>r10_Do.f k l kd n p v.f0 v.f1 v.f2 ver) (doR l kd n p v ver):=by
  have hlen:=hl.len
  unfold r10_Do.f doR
  by_cases h1:kd=1
  · simp only [h1, if_true]
    exact Ev.bind (r10_Create_ev (by omega) n p v) (Ev.now _)
  by_cases h2:kd=2
  · simp only [h1, h2, if_false, if_true]
    exact Ev.bind (r10_Limit_ev hl n v ver) (Ev.now _)
  by_cases h3:kd=3
  · simp only [h1, h2, h3, if_false, if_true]
    exact Ev.bind (r10_Move_ev hl n p ver) (Ev.now _)
  by_cases h4:kd=4
  · simp only [h1, h2, h3, h4, if_false, if_true]
    exact Ev.bind (r10_Delete_ev hl n ver) (Ev.now _)
  simp only [h1,h2,h3,h4,if_false]
  exact Ev.now _
theorem map_right {l:List Item} (hl:RightP l) {f:Item→Item} (h0: ∀x,(f x).f0=x.f0) (h1: ∀x,(f x).f1=x.f1) (h3: ∀x,(f x).f3=x.f3) (h4: ∀x,(f x).f4=x.f4) (h2: ∀x∈l,MayP (f x).f2∧LeP x.f4 (f x).f2) (h5: ∀x∈l,1≤(f x).f5∧(f x).f5≤9007199254740992):RightP (l.map f) where
  len:=by rw [List.length_map];exact hl.len
  ok:=by
    intro y hy
    obtain ⟨x,hx,rfl⟩:=List.mem_map.1 hy
    have k:=hl.ok x hx
    exact ⟨by rw [h0];exact k.name,by rw [h0];exact k.size,(h2 x hx).1,by rw [h3];exact k.own,by rw [h4];exact k.sub,by rw [h4];exact (h2 x hx).2,h5 x hx⟩
  sorted:=by
    rw [List.pairwise_map]
    exact hl.sorted.imp (fun {a b} h=>by rw [h0,h0];exact h)
  par:=by
    intro y hy
    obtain ⟨x,hx,rfl⟩:=List.mem_map.1 hy
    rw [h1]
    rcases hl.par x hx with h|⟨z,h⟩
    · exact .inl h
    exact .inr ⟨_,by rw [look_map h0,h];rfl⟩
  sum:=by
    intro c y hy
    obtain ⟨x,hx,rfl⟩:=List.mem_map.1 hy
    rw [h4,h3,h0,hl.sum c x hx]
    congr 1
    unfold csum
    rw [sumBy_map]
    exact sumBy_congr fun z _=>by rw [h1,h4]
  chain:=by
    intro y hy
    obtain ⟨x,hx,rfl⟩:=List.mem_map.1 hy
    obtain ⟨us,h⟩:=hl.chain x hx
    rw [h0]
    exact ⟨us,h.map h0 h1⟩
theorem lim_right {l:List Item} (hl:RightP l) {n:ByteArray} {v:Vec} {x:Item} (hx:look l n=some x) (hv:MayP v) (hle:LeP x.f4 v) (h5: ¬9007199254740992≤x.f5):RightP (l.map (limG n v)):=by
  obtain ⟨hxm,hxn⟩:=look_mem hx
  have heq: ∀z∈l,z.f0=n→z=x:=fun z hz e=>hl.eq_of hz hxm (e.trans hxn.symm)
  refine map_right hl (fun z=> ?_) (fun z=> ?_) (fun z=> ?_) (fun z=> ?_) (fun z hz=> ?_) (fun z hz=> ?_)
  · unfold limG;split<;>rfl
  · unfold limG;split<;>rfl
  · unfold limG;split<;>rfl
  · unfold limG;split<;>rfl
  · unfold limG
    by_cases e:z.f0=n
    · rw [if_pos e,heq z hz e];exact ⟨hv,hle⟩
    rw [if_neg e];exact ⟨(hl.ok z hz).lim,(hl.ok z hz).fit⟩
  have:=(hl.ok z hz).ver
  unfold limG
  by_cases e:z.f0=n
  rotate_left
  · rw [if_neg e];exact this
  rw [if_pos e]
  have h6:=heq z hz e
  subst h6
  show 1≤z.f5+1∧z.f5+1≤9007199254740992
  omega
theorem of_mvS (c:Comp) (fs ts:List ByteArray) (v:Vec) (z:Item):c.of (mvS fs ts v z)=c.of z.f4 - (if z.f0∈fs then c.of v else 0)+(if z.f0∈ts then c.of v else 0):=by
 unfold mvS
 by_cases h1:z.f0∈ts<;>by_cases h2:z.f0∈fs<;>simp only [h1,h2,if_true,if_false,of_vadd,of_vsub]<;>omega
theorem movB_fits {l:List Item} {x:Item} {p:ByteArray} (h:movB l x p=true): ∀z,look l z.f0=some z→z.f0∈up l p→z.f0∈up l x.f1∨LeP (vadd z.f4 x.f4) z.f2:=by
  intro z hz hm
  have:=List.all_eq_true.1 h z.f0 hm
  rw [hz,Bool.or_eq_true] at this
  rcases this with h|h
  · exact .inl (hasStr_iff.1 h)
  exact .inr (of_decide_eq_true h)
theorem mov_right {l:List Item} (hl:RightP l) {n p:ByteArray} {x:Item} (hx:look l n=some x) (hp:p=⟨#[]⟩∨ ∃y,look l p=some y) (hnt:n ∉ up l p) (h5: ¬9007199254740992≤x.f5) (hb:movB l x p=true):RightP (movL l n p x):=by
  obtain ⟨hxm,hxn⟩:=look_mem hx
  have hxs:=(hl.ok x hxm).sub
  have hnf:=not_own_way hl hx
  have heq: ∀z∈l,z.f0=n→z=x:=fun z hz e=>hl.eq_of hz hxm (e.trans hxn.symm)
  have hfits:=movB_fits hb
  have hge: ∀c:Comp,∀z∈l,z.f0∈up l x.f1→c.of x.f4≤c.of z.f4:=fun c z hz hm=>sub_up hl hxm hz (by rw [up_cons hl hxm];exact List.mem_cons_of_mem _ hm) c
  have hname: ∀z,(movG n p (up l x.f1) (up l p) x.f4 z).f0=z.f0:=fun _=>rfl
  have hfit: ∀c:Comp,∀z∈l,0≤c.of (mvS (up l x.f1) (up l p) x.f4 z)∧c.of (mvS (up l x.f1) (up l p) x.f4 z)≤c.of z.f2:=fun c z hz=>by
    have k:=hl.ok z hz
    have a:=k.sub c;have b:=k.fit c;have d:=hxs c
    rw [of_mvS]
    by_cases h1:z.f0∈up l x.f1
    · have e := hge c z hz h1
      by_cases h2:z.f0∈up l p
      · rw [if_pos h1,if_pos h2];omega
      rw [if_pos h1,if_neg h2];omega
    by_cases h2:z.f0∈up l p
    rotate_left
    · rw [if_neg h1,if_neg h2];omega
    rw [if_neg h1,if_pos h2]
    rcases hfits z (hl.look hz) h2 with q|q
    · exact absurd q h1
    have:=q c
    rw [of_vadd] at this
    omega
  refine ⟨?_, ?_, ?_, ?_, ?_, ?_⟩
  · unfold movL;rw [List.length_map];exact hl.len
  · intro y hy
    obtain ⟨z,hz,rfl⟩:=List.mem_map.1 hy
    have k:=hl.ok z hz
    refine ⟨k.name,k.size,k.lim,k.own,fun c=> ?_,fun c=>(hfit c z hz).2, ?_⟩
    · have a := hfit c z hz; have b := (k.lim c).2
      exact ⟨a.1,Int.le_trans a.2 b⟩
    have:=k.ver
    show 1≤(if z.f0=n then z.f5+1 else z.f5)∧(if z.f0=n then z.f5+1 else z.f5)≤9007199254740992
    by_cases e:z.f0=n
    rotate_left
    · rw [if_neg e];exact this
    rw [if_pos e]
    have h6:=heq z hz e
    subst h6
    omega
  · unfold movL
    rw [List.pairwise_map]
    exact hl.sorted
  · intro y hy
    obtain ⟨z,hz,rfl⟩:=List.mem_map.1 hy
    have hlk: ∀m,look (movL l n p x) m=(look l m).map (movG n p (up l x.f1) (up l p) x.f4):=fun m=>look_map hname l m
    show (if z.f0=n then p else z.f1)=⟨#[]⟩∨ ∃y,look (movL l n p x) (if z.f0=n then p else z.f1)=some y
    by_cases e:z.f0=n
    · rw [if_pos e]
      rcases hp with h|⟨y,h⟩
      · exact .inl h
      exact .inr ⟨_,by rw [hlk,h];rfl⟩
    rw [if_neg e]
    rcases hl.par z hz with h|⟨y,h⟩
    · exact .inl h
    exact .inr ⟨_,by rw [hlk,h];rfl⟩
  rotate_left
  · intro y hy
    obtain ⟨z,hz,rfl⟩:=List.mem_map.1 hy
    show∃us,Chain (movL l n p x) z.f0 us
    have hlk: ∀m,look (movL l n p x) m=(look l m).map (movG n p (up l x.f1) (up l p) x.f4):=fun m=>look_map hname l m
    have apart: ∀{m:ByteArray} {us:List ByteArray},Chain l m us→n ∉ us→Chain (movL l n p x) m us:=by
      intro m us h
      induction h with
      |nil q=>intro _;exact Chain.nil (by rw [hlk,q];rfl)
      | @cons m y us q _ ih =>
        intro hn
        rw [List.mem_cons,not_or] at hn
        have hy:=ih hn.2
        have hyn:=(look_mem q).2
        refine Chain.cons (x:=movG n p (up l x.f1) (up l p) x.f4 y) (by rw [hlk,q];rfl) ?_
        show Chain _ (if y.f0=n then p else y.f1) us
        rw [if_neg (by rw [hyn];exact fun e=>hn.1 e.symm)]
        exact hy
    have hown:Chain (movL l n p x) n (n::up l p):=by
      refine Chain.cons (x:=movG n p (up l x.f1) (up l p) x.f4 x) (by rw [hlk,hx];rfl) ?_
      show Chain _ (if x.f0=n then p else x.f1) _
      rw [if_pos hxn]
      exact apart (hl.chainAll p) hnt
    have all: ∀{m:ByteArray} {us:List ByteArray},Chain l m us→ ∃us',Chain (movL l n p x) m us':=by
      intro m us h
      induction h with
      |nil q=>exact ⟨_,Chain.nil (by rw [hlk,q];rfl)⟩
      | @cons m y us q _ ih =>
        have hyn:=(look_mem q).2
        by_cases e:y.f0=n
        · rw [← hyn, e]
          exact ⟨_,hown⟩
        obtain ⟨us',h'⟩:=ih
        refine ⟨m::us',Chain.cons (us:=us') (x:=movG n p (up l x.f1) (up l p) x.f4 y) (by rw [hlk,q];rfl) ?_⟩
        show Chain _ (if y.f0=n then p else y.f1) _
        rw [if_neg e]
        exact h'
    exact all (hl.chainAll z.f0)
  intro c y hy
  obtain ⟨z,hz,rfl⟩:=List.mem_map.1 hy
  show c.of (mvS (up l x.f1) (up l p) x.f4 z)=c.of z.f3+csum c (movL l n p x) z.f0
  have k1:=chain_kids hl (hl.chainAll x.f1) (c.of x.f4) hz
  have k2:=chain_kids hl (hl.chainAll p) (c.of x.f4) hz
  have hone: ∀v:Int,sumBy (fun y=>if y.f0=n then v else 0) l=v:=fun v=>by
    have:=sumBy_one (v:=v) hl.nodup hxm
    rw [hxn] at this
    exact this
  have hcs:csum c (movL l n p x) z.f0=csum c l z.f0 - sumBy (fun y=>if y.f1=z.f0∧y.f0∈up l x.f1 then c.of x.f4 else 0) l+sumBy (fun y=>if y.f1=z.f0∧y.f0∈up l p then c.of x.f4 else 0) l - sumBy (fun y=>if y.f0=n then (if x.f1=z.f0 then c.of x.f4 else 0) else 0) l+sumBy (fun y=>if y.f0=n then (if p=z.f0 then c.of x.f4 else 0) else 0) l:=by
    unfold csum movL
    rw [sumBy_map,←sumBy_sub,←sumBy_add,←sumBy_sub,←sumBy_add]
    refine sumBy_congr fun y hy=> ?_
    show (if (if y.f0=n then p else y.f1)=z.f0 then c.of (mvS (up l x.f1) (up l p) x.f4 y) else 0)=_
    rw [of_mvS]
    by_cases e:y.f0=n
    · have h6 := heq y hy e
      subst h6
      have q1:y.f0 ∉ up l y.f1:=by rw [e];exact hnf
      have q2:y.f0 ∉ up l p:=by rw [e];exact hnt
      simp only [e,if_true,hnf,hnt,if_false,and_false]
      by_cases a1:y.f1=z.f0<;>by_cases a2:p=z.f0<;>simp only [a1,a2,if_true,if_false]<;>omega
    simp only [e,if_false]
    by_cases a1:y.f1=z.f0
    · by_cases a2:y.f0∈up l x.f1<;>by_cases a3:y.f0∈up l p<;>simp only [a1,a2,a3,true_and,if_true,if_false]<;>omega
    simp only [a1,false_and,if_false]
    omega
  rw [hcs,hone,hone,k1,k2,of_mvS]
  have hs:=hl.sum c z hz
  have m1:z.f0=x.f1→z.f0∈up l x.f1:=fun e=>by rw [←e];exact up_self (hl.look hz)
  have m2:z.f0=p→z.f0∈up l p:=fun e=>by rw [←e];exact up_self (hl.look hz)
  have t1:(if z.f0∈up l x.f1∧z.f0≠x.f1 then c.of x.f4 else 0)+(if x.f1=z.f0 then c.of x.f4 else 0)=if z.f0∈up l x.f1 then c.of x.f4 else 0:=by
    by_cases e:z.f0=x.f1
    · rw [if_neg (fun h=>h.2 e),if_pos e.symm,if_pos (m1 e)];omega
    have e': ¬x.f1=z.f0:=fun q=>e q.symm
    by_cases q:z.f0∈up l x.f1<;>simp [e,e',q]
  have t2:(if z.f0∈up l p∧z.f0≠p then c.of x.f4 else 0)+(if p=z.f0 then c.of x.f4 else 0)=if z.f0∈up l p then c.of x.f4 else 0:=by
    by_cases e:z.f0=p
    · rw [if_neg (fun h=>h.2 e),if_pos e.symm,if_pos (m2 e)];omega
    have e': ¬p=z.f0:=fun q=>e q.symm
    by_cases q:z.f0∈up l p<;>simp [e,e',q]
  omega
theorem do_right {l:List Item} (hl:RightP l) {kd:Int} {n p:ByteArray} {v:Vec} {ver:Int} (h:(doR l kd n p v ver).2=0):RightP (doR l kd n p v ver).1:=by
  unfold doR at h ⊢
  by_cases h1:kd=1
  · rw [if_pos h1] at h ⊢
    have:=creR_right hl h
    rw [this.1]
    exact this.2.1
  rw [if_neg h1] at h ⊢
  by_cases h2:kd=2
  · rw [if_pos h2] at h ⊢
    unfold limR at h ⊢
    by_cases a1:MayP v
    rotate_left
    · rw [if_pos a1] at h;cases h
    rw [if_neg (fun q=>q a1)] at h ⊢
    by_cases a2:oldR l n ver=0
    rotate_left
    · rw [if_pos a2] at h;exact absurd h a2
    rw [if_neg (by simpa using a2)] at h ⊢
    obtain ⟨x,hx,_⟩:=oldR_zero a2
    simp only [hx] at h ⊢
    by_cases a3:9007199254740992≤x.f5
    · rw [if_pos a3] at h;cases h
    rw [if_neg a3] at h ⊢
    by_cases a4:LeP x.f4 v
    · rw [if_pos a4]
      exact lim_right hl hx a1 a4 a3
    rw [if_neg a4] at h;cases h
  rw [if_neg h2] at h ⊢
  by_cases h3:kd=3
  rotate_left
  · rw [if_neg h3] at h ⊢
    by_cases h4:kd=4
    rotate_left
    · rw [if_neg h4] at h;cases h
    rw [if_pos h4] at h ⊢
    unfold delR at h ⊢
    by_cases a2:oldR l n ver=0
    rotate_left
    · rw [if_pos a2] at h;exact absurd h a2
    rw [if_neg (by simpa using a2)] at h ⊢
    obtain ⟨x,hx,_⟩:=oldR_zero a2
    by_cases a3:0<(kids l n).length
    · rw [if_pos a3] at h;cases h
    rw [if_neg a3] at h ⊢
    simp only [hx] at h ⊢
    by_cases a4:x.f3.f0=0∧x.f3.f1=0∧x.f3.f2=0
    · rw [if_pos a4]
      exact del_right hl hx (kids_none a3) a4
    rw [if_neg a4] at h;cases h
  rw [if_pos h3] at h ⊢
  by_cases a2:oldR l n ver=0
  rotate_left
  · unfold movR at h
    rw [if_pos a2] at h
    exact absurd h a2
  obtain ⟨x,hx,_⟩:=oldR_zero a2
  by_cases a3:p≠⟨#[]⟩∧(look l p).isNone=true
  · unfold movR at h
    rw [if_neg (by simpa using a2),if_pos a3] at h
    cases h
  by_cases a4:n∈up l p
  · unfold movR at h
    rw [if_neg (by simpa using a2),if_neg a3,if_pos a4] at h
    cases h
  rw [movR_eq a2 hx a3 a4] at h ⊢
  by_cases a5:9007199254740992≤x.f5
  · rw [if_pos a5] at h;cases h
  rw [if_neg a5] at h ⊢
  by_cases a6:movB l x p=true
  rotate_left
  · rw [if_neg a6] at h;cases h
  rw [if_pos a6]
  refine mov_right hl hx ?_ a4 a5 a6
  by_cases e:p=⟨#[]⟩
  · exact .inl e
  right
  cases q:look l p with
  |none=>exact absurd ⟨e,by rw [q];rfl⟩ a3
  |some y=>exact ⟨y,rfl⟩
theorem shSame_l0 (l:List Item) (hl:l.length<1000000): ∀(d i:Nat),l.length - i=d→i≤l.length→Ev (fun k=>r10_SameItems.l0 k l l i) true
  | 0, i, hd, hi => by
    refine Ev.step (f:=fun _=>some true) (fun k=> ?_) (Ev.now _)
    simp only [r10_SameItems.l0]
    rw [if_neg (by omega)]
  | d + 1, i, hd, hi => by
    refine Ev.step (f:=fun k=>r10_SameItems.l0 k l l ((i+1:Nat):Int)) (fun k=> ?_) (shSame_l0 l hl d (i+1) (by omega) (by omega))
    simp only [r10_SameItems.l0]
    rw [if_pos (by omega),if_pos (by omega),if_pos (by omega),if_neg (by simp),w64 (by omega) (by omega)]
    rfl
theorem shSame_refl (l:List Item) (hl:l.length<1000000):Ev (fun k=>r10_SameItems.f k l l) true:=
 Ev.congr (fun k=>if_pos rfl) (shSame_l0 l hl _ 0 rfl (by omega))

theorem ss_num (e:Int):law1_Num.f e=some e:=rfl
theorem vec_Le_eq (a b d a' b' d':Int):vec_Le.f a b d a' b' d'=some (decide (LeP ⟨a,b,d⟩ ⟨a',b',d'⟩)):=by
 unfold vec_Le.f
 by_cases h0:a≤a'<;>by_cases h1:b≤b'<;>simp [h0,h1,leP_iff]
theorem vec_May_eq (a b d:Int):vec_May.f a b d=some (decide (MayP ⟨a,b,d⟩)):=by
  unfold vec_May.f vec_Most.f
  simp only [vec_Le_eq,Option.bind_some]
  by_cases h:LeP ⟨0,0,0⟩ ⟨a,b,d⟩
  · rw [if_pos (by exact decide_eq_true h)]
    congr 1
    rw [Bool.eq_iff_iff,decide_eq_true_iff,decide_eq_true_iff,mayP_iff,leP_iff]
    rw [leP_iff] at h
    constructor<;>intro k<;>omega
  rw [if_neg (by simpa using h)]
  congr 1
  symm
  rw [decide_eq_false_iff_not,mayP_iff]
  rw [leP_iff] at h
  omega
theorem slices_Clone_eq (l:List Item) (h:l.length<1000000):slices_Clone_Item.f l=some l:=by
 unfold slices_Clone_Item.f;rw [if_pos (by omega)]
theorem mem_ways {l:List Item} (hl:RightP l) {n:ByteArray} {x:Item} (hx:x∈l) (hm:x.f0∈up l n):x∈ways l n:=
 List.mem_map.2 ⟨x.f0,hm,fnd_rd (hl.look hx)⟩
abbrev Step:=S58
theorem rd_step (l:List Step) {i:Nat} (h:i<l.length):rd_T58 l (i:Int)=l[i]:=by
 show l.getD (i:Int).toNat _=_
 rw [Int.toNat_natCast,List.getD_eq_getElem?_getD,List.getElem?_eq_getElem h,Option.getD_some]
def trR:List Item→Int→List Step→List Item×Int×Int
 |l,d,[]=>(l,d,0)
 |l,d,s::ss=>if (doR l s.f0 s.f1 s.f2 s.f3 (-1)).2=0 then trR (doR l s.f0 s.f1 s.f2 s.f3 (-1)).1 (d+1) ss else (l,d,(doR l s.f0 s.f1 s.f2 s.f3 (-1)).2)
theorem trR_right: ∀(ss:List Step) {l:List Item} (d:Int),RightP l→RightP (trR l d ss).1
  |[],l,d,hl=>hl
  | s :: ss, l, d, hl => by
    unfold trR
    by_cases h:(doR l s.f0 s.f1 s.f2 s.f3 (-1)).2=0
    · rw [if_pos h]
      exact trR_right ss _ (do_right hl h)
    rw [if_neg h]
    exact hl
theorem trial_try_ev (ss:List Step) (hs:ss.length<1000000): ∀(n i:Nat) {l:List Item} (d:Int),ss.length - i=n→i≤ss.length→RightP l→0≤d→d≤i→Ev (fun k=>trial_try.l0 k ss (i:Int) l d) (trR l d (ss.drop i))
  | 0, i, l, d, hn, hi, hl, h0, h1 => by
    refine Ev.step (f:=fun _=>some (l,d,0)) (fun k=> ?_) ?_
    · simp only [trial_try.l0]
      rw [if_neg (by omega)]
    rw [List.drop_of_length_le (by omega)]
    exact Ev.now _
  | n + 1, i, l, d, hn, hi, hl, h0, h1 => by
    have hlt:i<ss.length:=by omega
    rw [List.drop_eq_getElem_cons hlt]
    refine Ev.step (f:=fun k=>(shape_Do.f k l ss[i].f0 ss[i].f1 ss[i].f2 ss[i].f3.f0 ss[i].f3.f1 ss[i].f3.f2 (-1)).bind fun bt7=>if bt7.2=0 then trial_try.l0 k ss (wrap64 ((i:Int)+1)) bt7.1 (wrap64 (d+1)) else some (l,d,bt7.2)) (fun k=> ?_) ?_
    · simp only [trial_try.l0]
      rw [if_pos (by omega),if_pos (by omega),rd_step ss hlt]
    refine Ev.bind (shape_Do_ev hl ss[i].f0 ss[i].f1 ss[i].f2 ss[i].f3 (-1)) ?_
    unfold trR
    rw [w64 (n:=(i:Int)+1) (by omega) (by omega),w64 (n:=d+1) (by omega) (by omega)]
    by_cases h:(doR l ss[i].f0 ss[i].f1 ss[i].f2 ss[i].f3 (-1)).2=0
    · rw [if_pos h]
      exact Ev.congr (fun k=>if_pos h) (trial_try_ev ss hs n (i+1) (d+1) (by omega) (by omega) (do_right hl h) (by omega) (by omega))
    rw [if_neg h]
    exact Ev.congr (fun k=>if_neg h) (Ev.now _)
theorem trial_Steps_ev {l:List Item} (hl:RightP l) (ss:List Step) (hs:ss.length<1000000):Ev (fun k=>trial_Steps.f k l ss) (trR l 0 ss):=by
 have hlen:=hl.len
 unfold trial_Steps.f
 rw [slices_Clone_eq l (by omega)]
 simp only [Option.bind_some]
 exact trial_try_ev ss hs ss.length 0 0 (by omega) (by omega) hl (by omega) (by omega)
theorem r10_Trial_l0_ev (ss:List Step) (hs:ss.length<1000000): ∀(n i:Nat) {l:List Item} (d:Int),ss.length - i=n→i≤ss.length→RightP l→0≤d→d≤i→Ev (fun k=>r10_Trial.l0 k ss (i:Int) l d 0) (trR l d (ss.drop i))
  | 0, i, l, d, hn, hi, hl, h0, h1 => by
    refine Ev.step (f:=fun _=>some (l,d,0)) (fun k=> ?_) ?_
    · simp only [r10_Trial.l0]
      rw [if_neg (by omega)]
    rw [List.drop_of_length_le (by omega)]
    exact Ev.now _
  | n + 1, i, l, d, hn, hi, hl, h0, h1 => by
    have hlt:i<ss.length:=by omega
    rw [List.drop_eq_getElem_cons hlt]
    refine Ev.step (f:=fun k=>(r10_Do.f k l ss[i].f0 ss[i].f1 ss[i].f2 ss[i].f3.f0 ss[i].f3.f1 ss[i].f3.f2 (-1)).bind fun bt7=>if bt7.2=0 then r10_Trial.l0 k ss (wrap64 ((i:Int)+1)) bt7.1 (wrap64 (d+1)) 0 else some (l,d,bt7.2)) (fun k=> ?_) ?_
    · simp only [r10_Trial.l0]
      rw [if_pos (by omega),if_pos (by omega),rd_step ss hlt]
    refine Ev.bind (r10_Do_ev hl ss[i].f0 ss[i].f1 ss[i].f2 ss[i].f3 (-1)) ?_
    unfold trR
    rw [w64 (n:=(i:Int)+1) (by omega) (by omega),w64 (n:=d+1) (by omega) (by omega)]
    by_cases h:(doR l ss[i].f0 ss[i].f1 ss[i].f2 ss[i].f3 (-1)).2=0
    · rw [if_pos h]
      exact Ev.congr (fun k=>if_pos h) (r10_Trial_l0_ev ss hs n (i+1) (d+1) (by omega) (by omega) (do_right hl h) (by omega) (by omega))
    rw [if_neg h]
    exact Ev.congr (fun k=>if_neg h) (Ev.now _)
theorem r10_Trial_ev {l:List Item} (hl:RightP l) (ss:List Step) (hs:ss.length<1000000):Ev (fun k=>r10_Trial.f k l ss) (trR l 0 ss):=by
 have hlen:=hl.len
 unfold r10_Trial.f
 rw [r10_copied_eq l (by omega)]
 simp only [Option.bind_some]
 exact r10_Trial_l0_ev ss hs ss.length 0 0 (by omega) (by omega) hl (by omega) (by omega)
theorem le_room {l:List Item} (hl:RightP l) {n:ByteArray} {v:Vec} (hv:MayP v):LeP v (roomV l n)↔ ∀x∈l,x.f0∈up l n→LeP (vadd x.f4 v) x.f2:=by
  constructor
  · intro h x hx hu c
    have h1:=h c
    have h2:=least_le c (a:=most) (mem_ways hl hx hu)
    unfold roomV at h1
    rw [of_vadd]
    unfold freeV at h2
    rw [of_vsub] at h2
    omega
  intro h c
  refine le_least c ?_ (fun x hx=> ?_)
  · have := (hv c).2
    cases c<;>exact this
  have hm:=ways_mem hx
  have:=h x hm.1 hm.2 c
  rw [of_vadd] at this
  unfold freeV
  rw [of_vsub]
  omega
theorem tl_fits_ev {l:List Item} (hl:RightP l) (n:ByteArray) (v:Vec):Ev (fun k=>trial_live_fits.f k l n v.f0 v.f1 v.f2) ((admR l n v).2==0):=by
  unfold trial_live_fits.f
  refine Ev.bind (room_Of_ev hl n) ?_
  unfold roomR admR
  by_cases h:(look l n).isNone=true
  · rw [if_pos h]
    refine Ev.congr (fun k=>if_neg (by simp)) (Ev.const ?_)
    by_cases hv:MayP v
    · rw [if_neg (fun q=>q hv),if_pos h];rfl
    rw [if_pos hv];rfl
  rw [if_neg h]
  refine Ev.const ?_
  simp only [if_true]
  rw [vec_May_eq]
  simp only [Option.bind_some]
  by_cases hv:MayP v
  rotate_left
  · rw [if_neg (by exact fun q=>hv (of_decide_eq_true q)),if_pos hv];rfl
  rw [if_pos (by exact decide_eq_true hv),vec_Le_eq,if_neg (fun q=>q hv),if_neg h]
  simp only [Option.bind_some]
  by_cases hr: ∀x∈l,x.f0∈up l n→LeP (vadd x.f4 v) x.f2
  · rw [if_pos hr]
    exact congrArg some (decide_eq_true ((le_room hl hv).2 hr))
  rw [if_neg hr]
  exact congrArg some (decide_eq_false (fun q=>hr ((le_room hl hv).1 q)))
theorem trial_Would_ev {l:List Item} (hl:RightP l) (ss:List Step) (hs:ss.length<1000000) (n:ByteArray) (v:Vec):Ev (fun k=>trial_Would.f k l n v.f0 v.f1 v.f2 ss) ((admR l n v).2==0,(admR (trR l 0 ss).1 n v).2==0):=by
 unfold trial_Would.f
 exact Ev.bind (trial_Steps_ev hl ss hs) (Ev.bind (tl_fits_ev hl n v) (Ev.bind (tl_fits_ev (trR_right ss 0 hl) n v) (Ev.now _)))
theorem r10_Would_ev {l:List Item} (hl:RightP l) (ss:List Step) (hs:ss.length<1000000) (n:ByteArray) (v:Vec):Ev (fun k=>r10_Would.f k l n v.f0 v.f1 v.f2 ss) ((admR l n v).2==0,(admR (trR l 0 ss).1 n v).2==0):=by
 unfold r10_Would.f
 exact Ev.bind (r10_Trial_ev hl ss hs) (Ev.bind (r10_Admit_ev hl n v) (Ev.bind (r10_Admit_ev (trR_right ss 0 hl) n v) (Ev.now _)))
def Ok1 (l:List Item) (i:Nat):Prop:=ItemOK (rd_T31 l i)∧(0<i→lt (rd_T31 l ((i:Int) - 1)).f0 (rd_T31 l i).f0=true)∧((rd_T31 l i).f1=⟨#[]⟩∨ ∃y,look l (rd_T31 l i).f1=some y)
def Ok2 (l:List Item) (i:Nat):Prop:=(∀c:Comp,c.of (rd_T31 l i).f4=c.of (rd_T31 l i).f3+csum c l (rd_T31 l i).f0)
def Ok3 (l:List Item) (i:Nat):Prop:=(up l (rd_T31 l i).f0).length≤l.length
theorem rd_get {l:List Item} {i:Nat} (h:i<l.length):rd_T31 l (i:Int)=l[i]:=by rw [rd_item,Int.toNat_natCast];simp [h]
theorem rd_mem {l:List Item} {i:Nat} (h:i<l.length):rd_T31 l (i:Int)∈l:=by rw [rd_get h];exact List.getElem_mem h
theorem rightP_iff (l:List Item):RightP l↔l.length≤120∧(∀i,i<l.length→Ok1 l i)∧(∀i,i<l.length→Ok2 l i)∧(∀i,i<l.length→Ok3 l i):=by
  constructor
  · intro h
    refine ⟨h.len,fun i hi=>⟨h.ok _ (rd_mem hi),fun h0=> ?_,h.par _ (rd_mem hi)⟩,fun i hi c=>h.sum c _ (rd_mem hi),fun i hi=>up_len_iff.2 (h.chain _ (rd_mem hi))⟩
    have:=List.pairwise_iff_getElem.1 h.sorted (i - 1) i (by omega) hi (by omega)
    rw [show ((i:Int) - 1)=((i - 1:Nat):Int) from by omega,rd_get (show i - 1<l.length by omega),rd_get hi]
    exact this
  rintro ⟨h1,h2,h3,h4⟩
  have hx: ∀x∈l,∃i,i<l.length∧rd_T31 l (i:Int)=x:=fun x hx=>by
    obtain ⟨i,hi,e⟩:=List.getElem_of_mem hx
    exact ⟨i,hi,by rw [rd_get hi];exact e⟩
  refine ⟨h1,fun x hx'=> ?_, ?_,fun x hx'=> ?_,fun c x hx'=> ?_,fun x hx'=> ?_⟩
  · obtain ⟨i, hi, rfl⟩ := hx x hx'
    exact (h2 i hi).1
  · rw [List.pairwise_iff_getElem]
    intro i j hi hj hij
    have step: ∀d:Nat,∀hd:i+1+d<l.length,lt l[i].f0 (l[i+1+d]).f0=true:=by
      intro d
      induction d with
      | zero =>
        intro hd
        have:=(h2 (i+1) (by omega)).2.1 (by omega)
        rw [show (((i+1:Nat):Int) - 1)=(i:Int) from by omega,rd_get hi,rd_get (show i+1<l.length by omega)] at this
        exact this
      | succ d ih =>
        intro hd
        have:=(h2 (i+1+(d+1)) hd).2.1 (by omega)
        rw [show (((i+1+(d+1):Nat):Int) - 1)=((i+1+d:Nat):Int) from by omega,rd_get (show i+1+d<l.length by omega),rd_get hd] at this
        exact lt_trans (ih (by omega)) this
    have:=step (j - (i+1)) (by omega)
    simpa [show i+1+(j - (i+1))=j by omega] using this
  · obtain ⟨i, hi, rfl⟩ := hx x hx'
    exact (h2 i hi).2.2
  · obtain ⟨i, hi, rfl⟩ := hx x hx'
    exact h3 i hi c
  obtain ⟨i,hi,rfl⟩:=hx x hx'
  exact up_len_iff.1 (h4 i hi)
theorem of_addV_ (c:Comp) (a:Vec) (ws:List Item):c.of (addV a ws)=c.of a+sumBy (fun x=>c.of x.f4) ws:=by cases c<;>rfl
theorem addV_snoc_ (a:Vec) (ws:List Item) (y:Item):addV a (ws++ [y])=vadd (addV a ws) y.f4:=vec_ext fun c=>by
 rw [of_vadd,of_addV_,of_addV_,sumBy_append,sumBy_cons,sumBy_nil];omega
theorem small_addV_ {a:Vec} {n:Nat} (ha:SmallV a n) {ws:List Item} (hw: ∀y∈ws,MayP y.f4):SmallV (addV a ws) (n+ws.length):=fun c=>by
 have h1:=ha c
 have h2:=sumBy_nonneg (g:=fun x=>c.of x.f4) (l:=ws) (fun y hy=>(hw y hy c).1)
 have h3:=sumBy_le (g:=fun x=>c.of x.f4) (B:=1099511627776) (l:=ws) (fun y hy=>(hw y hy c).2)
 rw [of_addV_]
 omega
theorem r10_add_small_ {a b:Vec} {n:Nat} (ha:SmallV a n) (hb:MayP b) (hn:n≤1000):r10_Add.f a.f0 a.f1 a.f2 b.f0 b.f1 b.f2=some ((vadd a b).f0,(vadd a b).f1,(vadd a b).f2):=by
 obtain ⟨e0,e1,e2⟩:=small_wrap ha hb hn
 unfold r10_Add.f
 rw [e0,e1,e2]
theorem ok2_iff {l:List Item} {i:Nat} {x:Item} (hx:rd_T31 l i=x):Ok2 l i↔addV x.f3 (l.filter (fun y=>decide (y.f1=x.f0)))=x.f4:=by
  have key: ∀c:Comp,c.of (addV x.f3 (l.filter (fun y=>decide (y.f1=x.f0))))=c.of x.f3+csum c l x.f0:=fun c=>by
    rw [of_addV_,sumBy_filter]
    simp only [decide_eq_true_eq]
    rfl
  unfold Ok2
  rw [hx]
  constructor
  · intro h
    exact vec_ext fun c=>by rw [key c,h c]
  intro h c
  rw [←key c,h]
theorem r10_full_l2 {l:List Item} (hlen:l.length≤120) (h1: ∀i,i<l.length→Ok1 l i) {i:Nat} (hi:i<l.length) {x:Item} (hx:rd_T31 l i=x) {b:Bool} (hno: ¬(Ok2 l i∧Ok3 l i)→b=false)
    (rest:Ok2 l i∧Ok3 l i→Ev (fun k=>r10_Right.l1 k l ((i+1:Nat):Int)) b): ∀(d j:Nat),l.length - j=d→j≤l.length→
    Ev (fun k=>r10_Right.l2 k l i j (addV x.f3 ((l.take j).filter (fun y=>decide (y.f1=x.f0)))).f0 (addV x.f3 ((l.take j).filter (fun y=>decide (y.f1=x.f0)))).f1 (addV x.f3 ((l.take j).filter (fun y=>decide (y.f1=x.f0)))).f2) b
  | 0, j, hd, hj => by
    obtain rfl:j=l.length:=by omega
    rw [List.take_length]
    have hok:=ok2_iff (l:=l) (i:=i) hx
    generalize addV x.f3 (l.filter (fun y=>decide (y.f1=x.f0)))=s at hok
    refine Ev.step (fun k=>r10_Right.l2.eq_2 (k:=k) ..) ?_
    have e1:((i:Int)<(l.length:Int))=True:=eq_true (by omega)
    have e2:((0:Int)≤(i:Int))=True:=eq_true (by omega)
    have e3:wrap64 ((i:Int)+1)=((i+1:Nat):Int):=by rw [w64 (by omega) (by omega)];rfl
    simp only [Int.lt_irrefl,if_false,e1,e2,if_true,hx,e3]
    by_cases hs:s=x.f4
    rotate_left
    · refine Ev.congr (fun k => if_pos ?_) ?_
      · have : ¬ (s.f0 = x.f4.f0 ∧ s.f1 = x.f4.f1 ∧ s.f2 = x.f4.f2) := fun ⟨a, b, c⟩ => hs (vec_ext fun d => by cases d <;> assumption)
        by_cases a:s.f0=x.f4.f0<;>by_cases b:s.f1=x.f4.f1<;>by_cases c:s.f2=x.f4.f2<;>simp_all
      rw [hno (fun q=>hs (hok.1 q.1))]
      exact Ev.now _
    subst hs
    refine Ev.congr (fun k=>if_neg (by simp)) ?_
    refine Ev.bind (r10_Up_ev l x.f0 (by omega)) ?_
    by_cases hu:(up l x.f0).length≤l.length
    · exact Ev.congr (fun k=>if_neg (by omega)) (rest ⟨hok.2 rfl,by unfold Ok3;rw [hx];exact hu⟩)
    refine Ev.congr (fun k=>if_pos (by omega)) ?_
    rw [hno (fun q=>hu (by have:=q.2;unfold Ok3 at this;rw [hx] at this;exact this))]
    exact Ev.now _
  | d + 1, j, hd, hj => by
    have hlt:j<l.length:=by omega
    have ih:=r10_full_l2 hlen h1 hi hx hno rest d (j+1) (by omega) (by omega)
    have hrd:=rd_get hlt
    have hall: ∀y∈l,ItemOK y:=fun y hy=>by
      obtain ⟨m,hm,e⟩:=List.getElem_of_mem hy
      have:=(h1 m hm).1
      rw [rd_get hm,e] at this
      exact this
    have hym:MayP (l[j]).f4:=(hall _ (List.getElem_mem hlt)).sub
    rw [List.take_succ_eq_append_getElem hlt,List.filter_append] at ih
    have hxm:ItemOK x:=by rw [←hx];exact (h1 i hi).1
    have hsm:=small_addV_ (a:=x.f3) (n:=1) (fun c=>by have:=hxm.own c;omega) (ws:=(l.take j).filter (fun y=>decide (y.f1=x.f0))) (fun y hy=>(hall y (List.mem_of_mem_take (List.mem_filter.1 hy).1)).sub)
    have hfl:=List.length_filter_le (fun y:Item=>decide (y.f1=x.f0)) (l.take j)
    rw [List.length_take] at hfl
    generalize l[j]=y at hrd ih hym
    refine Ev.step (fun k=>r10_Right.l2.eq_2 (k:=k) ..) ?_
    have e1:((i:Int)<(l.length:Int))=True:=eq_true (by omega)
    have e2:((0:Int)≤(i:Int))=True:=eq_true (by omega)
    have e4:((j:Int)<(l.length:Int))=True:=eq_true (by omega)
    have e5:((0:Int)≤(j:Int))=True:=eq_true (by omega)
    have e3:wrap64 ((j:Int)+1)=((j+1:Nat):Int):=by rw [w64 (by omega) (by omega)];rfl
    simp only [e1,e2,e4,e5,if_true,hx,hrd,e3]
    by_cases hy:y.f1=x.f0
    · have e6 : (y.f1.toList = x.f0.toList) = True := eq_true (nm_inj.2 hy)
      rw [List.filter_cons_of_pos (by simpa using hy),List.filter_nil,addV_snoc_] at ih
      simp only [e6,if_true,r10_add_small_ hsm hym (by omega),Option.bind_some]
      exact ih
    have e6:(y.f1.toList=x.f0.toList)=False:=eq_false (fun q=>hy (nm_inj.1 q))
    rw [List.filter_cons_of_neg (by simpa using hy),List.filter_nil,List.append_nil] at ih
    simp only [e6,if_false]
    exact ih
theorem r10_full_l1 {l:List Item} (hlen:l.length≤120) (h1: ∀i,i<l.length→Ok1 l i) {b:Bool} (hb:b=true↔RightP l): ∀(d i:Nat),l.length - i=d→i≤l.length→(∀j,j<i→Ok2 l j∧Ok3 l j)→Ev (fun k=>r10_Right.l1 k l i) b
  | 0, i, hd, hi, hp => by
    obtain rfl:i=l.length:=by omega
    refine Ev.step (fun k=>r10_Right.l1.eq_2 (k:=k) ..) ?_
    simp only [Int.lt_irrefl,if_false]
    rw [hb.2 ((rightP_iff l).2 ⟨hlen,h1,fun j hj=>(hp j hj).1,fun j hj=>(hp j hj).2⟩)]
    exact Ev.now _
  | d + 1, i, hd, hi, hp => by
    have hlt:i<l.length:=by omega
    refine Ev.step (fun k=>r10_Right.l1.eq_2 (k:=k) ..) ?_
    have e1:((i:Int)<(l.length:Int))=True:=eq_true (by omega)
    have e2:((0:Int)≤(i:Int))=True:=eq_true (by omega)
    simp only [e1,e2,if_true]
    have:=r10_full_l2 hlen h1 hlt (x:=rd_T31 l i) rfl (b:=b) (fun q=>by
      cases b with
      |false=>rfl
      | true =>
        obtain ⟨_,_,a,c⟩:=(rightP_iff l).1 (hb.1 rfl)
        exact absurd ⟨a i hlt,c i hlt⟩ q) (fun q=>r10_full_l1 hlen h1 hb d (i+1) (by omega) (by omega) (fun j hj=>by
        by_cases e:j=i
        · rw [e];exact q
        exact hp j (by omega))) _ 0 rfl (by omega)
    rw [List.take_zero,List.filter_nil,addV_nil] at this
    exact this
theorem r10_full_l0 {l:List Item} (hlen:l.length≤120) {b:Bool} (hb:b=true↔RightP l): ∀(d i:Nat),l.length - i=d→i≤l.length→(∀j,j<i→Ok1 l j)→Ev (fun k=>r10_Right.l0 k l i) b
  | 0, i, hd, hi, hp => by
    obtain rfl:i=l.length:=by omega
    refine Ev.step (fun k=>r10_Right.l0.eq_2 (k:=k) ..) ?_
    simp only [Int.lt_irrefl,if_false]
    exact r10_full_l1 hlen hp hb _ 0 rfl (by omega) (fun j hj=>absurd hj (by omega))
  | d + 1, i, hd, hi, hp => by
    have hlt:i<l.length:=by omega
    have hbad: ¬Ok1 l i→Ev (fun _=>some false) b:=fun q=>by
      cases b with
      |false=>exact Ev.now _
      |true=>exact absurd (((rightP_iff l).1 (hb.1 rfl)).2.1 i hlt) q
    have hnext:Ok1 l i→Ev (fun k=>r10_Right.l0 k l ((i+1:Nat):Int)) b:=fun q=>r10_full_l0 hlen hb d (i+1) (by omega) (by omega) (fun j hj=>by
      by_cases e:j=i
      · rw [e];exact q
      exact hp j (by omega))
    obtain ⟨x,hx⟩: ∃x,rd_T31 l (i:Int)=x:=⟨_,rfl⟩
    have hOk:Ok1 l i↔ItemOK x∧(0<i→lt (rd_T31 l ((i:Int) - 1)).f0 x.f0=true)∧(x.f1=⟨#[]⟩∨ ∃y,look l x.f1=some y):=by unfold Ok1;rw [hx]
    have e1:((i:Int)<(l.length:Int))=True:=eq_true (by omega)
    have e2:((0:Int)≤(i:Int))=True:=eq_true (by omega)
    have e3:wrap64 ((i:Int)+1)=((i+1:Nat):Int):=by rw [w64 (by omega) (by omega)];rfl
    have n0:r10_MayName.f x.f0=some (decide (x.f0≠⟨#[]⟩∧x.f0.size≤24)):=r10_MayName_eq _
    have n1:r10_MayVec.f x.f2.f0 x.f2.f1 x.f2.f2=some (decide (MayP x.f2)):=r10_MayVec_eq _ _ _
    have n2:r10_MayVec.f x.f3.f0 x.f3.f1 x.f3.f2=some (decide (MayP x.f3)):=r10_MayVec_eq _ _ _
    have n3:r10_Le.f x.f4.f0 x.f4.f1 x.f4.f2 x.f2.f0 x.f2.f1 x.f2.f2=some (decide (LeP x.f4 x.f2)):=r10_Le_eq _ _ _ _ _ _
    have n4:r10_MayVec.f x.f4.f0 x.f4.f1 x.f4.f2=some (decide (MayP x.f4)):=r10_MayVec_eq _ _ _
    refine Ev.step (fun k=>r10_Right.l0.eq_2 (k:=k) ..) ?_
    simp only [e1,e2,if_true,hx,n0,n1,n2,n3,n4,Option.bind_some,e3,decide_eq_true_eq]
    by_cases m0:x.f0≠⟨#[]⟩∧x.f0.size≤24
    case neg=>exact Ev.congr (fun k=>if_neg m0) (hbad fun q=>m0 ⟨(hOk.1 q).1.name,(hOk.1 q).1.size⟩)
    refine Ev.congr (fun k=>if_pos m0) ?_
    have hver:(0<i→lt (rd_T31 l ((i:Int) - 1)).f0 x.f0=true)→MayP x.f2→MayP x.f3→(x.f1=⟨#[]⟩∨ ∃y,look l x.f1=some y)→
        Ev (fun k=>if x.f5<1 then some false else if x.f5>9007199254740992 then some false else if LeP x.f4 x.f2 then (if MayP x.f4 then r10_Right.l0 k l ((i+1:Nat):Int) else some false) else some false) b:=fun ho ml mo hpar=>by
      by_cases v1:x.f5<1
      · exact Ev.congr (fun k=>if_pos v1) (hbad fun q=>by have:=(hOk.1 q).1.ver;omega)
      refine Ev.congr (fun k=>if_neg v1) ?_
      by_cases v2:x.f5>9007199254740992
      · exact Ev.congr (fun k=>if_pos v2) (hbad fun q=>by have:=(hOk.1 q).1.ver;omega)
      refine Ev.congr (fun k=>if_neg v2) ?_
      by_cases v3:LeP x.f4 x.f2
      case neg=>exact Ev.congr (fun k=>if_neg v3) (hbad fun q=>v3 (hOk.1 q).1.fit)
      refine Ev.congr (fun k=>if_pos v3) ?_
      by_cases v4:MayP x.f4
      case neg=>exact Ev.congr (fun k=>if_neg v4) (hbad fun q=>v4 (hOk.1 q).1.sub)
      exact Ev.congr (fun k=>if_pos v4) (hnext (hOk.2 ⟨⟨m0.1,m0.2,ml,mo,v4,v3,by omega⟩,ho,hpar⟩))
    have hpar:(0<i→lt (rd_T31 l ((i:Int) - 1)).f0 x.f0=true)→Ev (fun k=>if MayP x.f2 then (if MayP x.f3 then (if x.f1.toList=([]:List UInt8) then (if x.f5<1 then some false else if x.f5>9007199254740992 then some false else if LeP x.f4 x.f2 then (if MayP x.f4 then r10_Right.l0 k l ((i+1:Nat):Int) else some false) else some false) else ((r10_Find.f k l x.f1).bind fun t9=>(if t9<0 then some false else (if x.f5<1 then some false else if x.f5>9007199254740992 then some false else if LeP x.f4 x.f2 then (if MayP x.f4 then r10_Right.l0 k l ((i+1:Nat):Int) else some false) else some false)))) else some false) else some false) b:=fun ho=>by
      by_cases ml:MayP x.f2
      case neg=>exact Ev.congr (fun k=>if_neg ml) (hbad fun q=>ml (hOk.1 q).1.lim)
      refine Ev.congr (fun k=>if_pos ml) ?_
      by_cases mo:MayP x.f3
      case neg=>exact Ev.congr (fun k=>if_neg mo) (hbad fun q=>mo (hOk.1 q).1.own)
      refine Ev.congr (fun k=>if_pos mo) ?_
      by_cases hp:x.f1=⟨#[]⟩
      · exact Ev.congr (fun k=>if_pos (nm_empty.2 hp)) (hver ho ml mo (.inl hp))
      refine Ev.congr (fun k=>if_neg (fun z=>hp (nm_empty.1 z))) (Ev.bind (r10_Find_ev l x.f1 (by omega)) ?_)
      by_cases hf:fnd l x.f1<0
      rotate_left
      · exact Ev.congr (fun k=>if_neg hf) (hver ho ml mo (.inr (fnd_ge.1 (by omega))))
      refine Ev.congr (fun k=>if_pos hf) (hbad fun q=> ?_)
      rcases (hOk.1 q).2.2 with z|⟨y,hy⟩
      · exact hp z
      rw [fnd_neg.1 hf] at hy;cases hy
    by_cases hi0:(i:Int)>0
    rotate_left
    · have e5 : ((i : Int) > 0) = False := eq_false hi0
      simp only [e5,if_false]
      exact hpar (fun q=>absurd q (by omega))
    have e4:wrap64 ((i:Int) - 1)=(i:Int) - 1:=w64 (by omega) (by omega)
    have e5:((i:Int)>0)=True:=eq_true hi0
    have e6:(0≤(i:Int) - 1)=True:=eq_true (by omega)
    have e7:((i:Int) - 1<(l.length:Int))=True:=eq_true (by omega)
    simp only [e4,e5,e6,e7,if_true]
    by_cases m2:lt (rd_T31 l ((i:Int) - 1)).f0 x.f0=true
    · exact Ev.congr (fun k=>if_pos m2) (hpar (fun _=>m2))
    exact Ev.congr (fun k=>if_neg m2) (hbad fun q=>m2 ((hOk.1 q).2.1 (by omega)))
theorem r10_Right_ev (l:List Item) {b:Bool} (hb:b=true↔RightP l):Ev (fun k=>r10_Right.f k l) b:=by
  unfold r10_Right.f
  by_cases h:(l.length:Int)>120
  rotate_left
  · exact Ev.congr (fun k=>if_neg h) (r10_full_l0 (by omega) hb _ 0 rfl (by omega) (fun j hj=>absurd hj (by omega)))
  refine Ev.congr (fun k=>if_pos h) ?_
  cases b with
  |false=>exact Ev.now _
  |true=>exact absurd (hb.1 rfl).len (by omega)
theorem great_l0 (l:List Item): ∀(d i:Nat),150 - i=d→i≤150→i≤l.length→ ∃g,Ev (fun k=>law12_Great.l0 k l i) g∧(g=false→l.length≤130)
  | 0, i, hd, hi, hl => by
    obtain rfl:i=150:=by omega
    have hj:Ev (fun k=>law12_Great.j1 k l ((150:Nat):Int) false) (decide ((l.length:Int)>130)):=by
      refine Ev.step (fun k=>law12_Great.j1.eq_2 (k:=k) ..) ?_
      simp only [Bool.false_eq_true,if_false]
      exact Ev.now _
    refine ⟨decide ((l.length:Int)>130), ?_,fun h=>by have:=of_decide_eq_false h;omega⟩
    refine Ev.step (fun k=>law12_Great.l0.eq_2 (k:=k) ..) ?_
    rw [show decide (((150:Nat):Int)<150)=false from by decide]
    by_cases h:((150:Nat):Int)<(l.length:Int)
    · exact Ev.congr (fun k=>if_pos h) hj
    exact Ev.congr (fun k=>if_neg h) hj
  | d + 1, i, hd, hi, hl => by
    by_cases h:(i:Int)<(l.length:Int)
    rotate_left
    · refine ⟨decide ((l.length : Int) > 130), ?_, fun h => by have := of_decide_eq_false h; omega⟩
      refine Ev.step (fun k=>law12_Great.l0.eq_2 (k:=k) ..) ?_
      refine Ev.congr (fun k=>if_neg h) ?_
      refine Ev.step (fun k=>law12_Great.j1.eq_2 (k:=k) ..) ?_
      simp only [Bool.false_eq_true,if_false]
      exact Ev.now _
    have hj: ∃g,Ev (fun k=>law12_Great.j1 k l (i:Int) true) g∧(g=false→l.length≤130):=by
      have e1:((0:Int)≤(i:Int))=True:=eq_true (by omega)
      have e2:((i:Int)<(l.length:Int))=True:=eq_true h
      have e3:wrap64 ((i:Int)+1)=((i+1:Nat):Int):=by rw [w64 (by omega) (by omega)];rfl
      by_cases h1:((rd_T31 l (i:Int)).f0.size:Int)>100
      · refine ⟨true, ?_, fun q => by cases q⟩
        refine Ev.step (fun k=>law12_Great.j1.eq_2 (k:=k) ..) ?_
        simp only [e1,e2,if_true]
        exact Ev.congr (fun k=>if_pos h1) (Ev.now _)
      by_cases h2:((rd_T31 l (i:Int)).f1.size:Int)>100
      · refine ⟨true, ?_, fun q => by cases q⟩
        refine Ev.step (fun k=>law12_Great.j1.eq_2 (k:=k) ..) ?_
        simp only [e1,e2,if_true]
        exact Ev.congr (fun k=>(if_neg h1).trans (if_pos h2)) (Ev.now _)
      obtain ⟨g,hg,hg2⟩:=great_l0 l d (i+1) (by omega) (by omega) (by omega)
      refine ⟨g, ?_,hg2⟩
      refine Ev.step (fun k=>law12_Great.j1.eq_2 (k:=k) ..) ?_
      simp only [e1,e2,e3,if_true]
      exact Ev.congr (fun k=>(if_neg h1).trans (if_neg h2)) hg
    obtain ⟨g,hg,hg2⟩:=hj
    refine ⟨g, ?_,hg2⟩
    refine Ev.step (fun k=>law12_Great.l0.eq_2 (k:=k) ..) ?_
    rw [show decide ((i:Int)<150)=true from decide_eq_true (by omega)]
    exact Ev.congr (fun k=>if_pos h) hg
theorem great_ev (l:List Item): ∃g,Ev (fun k=>law12_Great.f k l) g∧(g=false→l.length≤130):=great_l0 l _ 0 rfl (by omega) (by omega)
theorem r10_Right_some (l:List Item): ∃b,Ev (fun k=>r10_Right.f k l) b∧(b=true↔RightP l):=by
  by_cases h:RightP l
  · exact ⟨true,r10_Right_ev l (by simp [h]),by simp [h]⟩
  exact ⟨false,r10_Right_ev l (by simp [h]),by simp [h]⟩
theorem ta_awake:Ev (fun k=>law19_awake.f k) true:=Ev.of (g:=fun k=>law19_awake.f k) (fun k=>law19_awake.mono k) (k:=20) (by kernel_rfl)
theorem ta_awake_bind:Ev (fun k=>(law19_awake.f k).bind fun t=>some t) true:=Ev.bind ta_awake (Ev.now _)
theorem ta_same_l0 (l:List Step) (hl:l.length<1000000): ∀(d i:Nat),l.length - i=d→i≤l.length→Ev (fun k=>r16_SameSteps.l0 k l l i) true
  | 0, i, hd, hi => by
    refine Ev.step (fun k=>r16_SameSteps.l0.eq_2 (k:=k) ..) ?_
    exact Ev.congr (fun k=>if_neg (by omega)) (Ev.now _)
  | d + 1, i, hd, hi => by
    refine Ev.step (fun k=>r16_SameSteps.l0.eq_2 (k:=k) ..) ?_
    have e3:wrap64 ((i:Int)+1)=((i+1:Nat):Int):=by rw [w64 (by omega) (by omega)];rfl
    rw [e3]
    refine Ev.congr (fun k=>by rw [if_pos (by omega),if_pos (by omega),if_pos (by omega)]) ?_
    refine Ev.congr (fun k=>if_neg (by simp)) (ta_same_l0 l hl d (i+1) (by omega) (by omega))
theorem ta_same (l:List Step) (hl:l.length<1000000):Ev (fun k=>r16_SameSteps.f k l l) true:=by
 unfold r16_SameSteps.f
 exact Ev.congr (fun k=>if_pos rfl) (ta_same_l0 l hl l.length 0 (by omega) (by omega))
theorem ta_great_end (ss:List Step) (i:Int): ∃b,Ev (fun k=>law16_Great.j3 k i false [] ss 0) b:=by
 refine ⟨_,Ev.step (fun k=>law16_Great.j3.eq_2 (k:=k) ..) (Ev.congr (fun k=>if_neg (by decide)) (Ev.congr (fun k=>if_neg (by simp)) (Ev.now _)))⟩
theorem ta_great_l1 (ss:List Step): ∀(d i:Nat),600 - i=d→i≤600→ ∃b,Ev (fun k=>law16_Great.l1 k (i:Int) [] ss 0) b
  | d, i, hd, hi => by
    by_cases h1:(i:Int)<(ss.length:Int)
    rotate_left
    · obtain ⟨b, hb⟩ := ta_great_end ss (i : Int)
      exact ⟨b,Ev.step (fun k=>law16_Great.l1.eq_2 (k:=k) ..) (Ev.congr (fun k=>if_neg h1) hb)⟩
    by_cases h2:(i:Int)<600
    rotate_left
    · obtain ⟨b, hb⟩ := ta_great_end ss (i : Int)
      exact ⟨b,Ev.step (fun k=>law16_Great.l1.eq_2 (k:=k) ..) (Ev.congr (fun k=>by rw [if_pos h1,decide_eq_false h2]) hb)⟩
    match d,hd with
    |0,hd=>omega
    | d + 1, hd =>
      have e3:wrap64 ((i:Int)+1)=((i+1:Nat):Int):=by rw [w64 (by omega) (by omega)];rfl
      have main: ∃b,Ev (fun k=>law16_Great.j3 k (i:Int) true [] ss 0) b:=by
        by_cases s1:(((rd_T58 ss (i:Int)).f1).size:Int)>100
        · exact ⟨true,Ev.step (fun k=>law16_Great.j3.eq_2 (k:=k) ..) (Ev.congr (fun k=>by rw [if_pos rfl,if_pos (by omega),if_pos h1,if_pos s1]) (Ev.now _))⟩
        by_cases s2:(((rd_T58 ss (i:Int)).f2).size:Int)>100
        · exact ⟨true,Ev.step (fun k=>law16_Great.j3.eq_2 (k:=k) ..) (Ev.congr (fun k=>by rw [if_pos rfl,if_pos (by omega),if_pos h1,if_neg s1,if_pos s2]) (Ev.now _))⟩
        obtain ⟨b,hb⟩:=ta_great_l1 ss d (i+1) (by omega) (by omega)
        exact ⟨b,Ev.step (fun k=>law16_Great.j3.eq_2 (k:=k) ..) (Ev.congr (fun k=>by rw [if_pos rfl,if_pos (by omega),if_pos h1,if_neg s1,if_neg s2,e3]) hb)⟩
      obtain ⟨b,hb⟩:=main
      exact ⟨b,Ev.step (fun k=>law16_Great.l1.eq_2 (k:=k) ..) (Ev.congr (fun k=>by rw [if_pos h1,decide_eq_true h2]) hb)⟩
theorem ta_great (ss:List Step): ∃b,Ev (fun k=>law16_Great.f k [] ss 0) b:=by
 obtain ⟨b,hb⟩:=ta_great_l1 ss 600 0 rfl (by omega)
 refine ⟨b, ?_⟩
 unfold law16_Great.f
 refine Ev.step (fun k=>law16_Great.l0.eq_2 (k:=k) ..) (Ev.congr (fun k=>if_neg (by simp)) ?_)
 exact Ev.step (fun k=>law16_Great.j1.eq_2 (k:=k) ..) (Ev.congr (fun k=>if_neg (by decide)) hb)
theorem ta_j0 {l:List Item} {ss:List Step} {b:Bool} (hb:b=false→RightP l∧ss.length≤60) (n:ByteArray) (v:Vec):Ev (fun k=>law19_TrialAll.j0 k l n ss b v.f0 v.f1 v.f2) true:=by
  refine Ev.step (fun k=>law19_TrialAll.j0.eq_2 (k:=k) ..) ?_
  cases b with
  |true=>exact Ev.congr (fun k=>if_pos rfl) ta_awake_bind
  | false =>
    obtain ⟨hl,hs⟩:=hb rfl
    have hlen:=hl.len
    have hlen2:=(trR_right ss 0 hl).len
    refine Ev.congr (fun k=>if_neg (by decide)) ?_
    simp only [Option.bind_some,List.length_nil,List.nil_append]
    refine Ev.congr (fun k=>by rw [if_pos (by omega),if_pos (by omega)]) ?_
    refine Ev.bind (trial_Steps_ev hl ss (by omega)) (Ev.bind (r10_Trial_ev hl ss (by omega)) ?_)
    refine Ev.bind (trial_Would_ev hl ss (by omega) n v) (Ev.bind (r10_Would_ev hl ss (by omega) n v) ?_)
    refine Ev.bind (shSame_refl _ (by omega)) (Ev.congr (fun k=>if_pos rfl) ?_)
    simp only [ss_num,Option.bind_some,if_true]
    refine Ev.congr (fun k=>by rw [if_pos (by simp),if_pos (by simp)]) ?_
    refine Ev.bind (shSame_refl l (by omega)) (Ev.congr (fun k=>if_pos rfl) ?_)
    refine Ev.bind (ta_same ss (by omega)) (Ev.congr (fun k=>if_pos rfl) ?_)
    exact ta_awake_bind
end Go.Proofs.Ytcgefpklljclgaa.Print
namespace Go.Proofs.Ytcgefpklljclgaa.Pure
open Go.RowKit Go.Proofs.Ytcgefpklljclgaa.Print Go.Proofs.YtcgefpklljclgaaW.PrintWords Go.Proofs.YtcgefpklljclgaaW.PrintLast
theorem TrialAll (l:List Print.Item) (n:ByteArray) (v:Print.Vec) (ss:List Print.Step): ∃k,law19_TrialAll.f k l n v.f0 v.f1 v.f2 ss=some true:=by
  obtain ⟨g,hg,hg2⟩:=great_ev l
  unfold law19_TrialAll.f
  refine Ev.rounds (Ev.bind hg ?_)
  cases g with
  |true=>exact Ev.congr (fun k=>if_pos rfl) (ta_j0 (fun e=>by cases e) n v)
  | false =>
    refine Ev.congr (fun k=>if_neg (by simp)) ?_
    by_cases h:(n.size:Int)>100
    · exact Ev.congr (fun k=>if_pos h) (ta_j0 (fun e=>by cases e) n v)
    refine Ev.congr (fun k=>if_neg h) ?_
    obtain ⟨b,hb⟩:=ta_great ss
    refine Ev.bind hb ?_
    cases b with
    |true=>exact Ev.congr (fun k=>if_pos rfl) (ta_j0 (fun e=>by cases e) n v)
    | false =>
      refine Ev.congr (fun k=>if_neg (by simp)) ?_
      by_cases h2:(ss.length:Int)>60
      · exact Ev.congr (fun k=>if_pos h2) (ta_j0 (fun e=>by cases e) n v)
      refine Ev.congr (fun k=>if_neg h2) ?_
      obtain ⟨t,ht,ht2⟩:=r10_Right_some l
      refine Ev.bind ht ?_
      exact ta_j0 (fun e=>⟨ht2.1 (by simpa using e),by omega⟩) n v
end Go.Proofs.Ytcgefpklljclgaa.Pure

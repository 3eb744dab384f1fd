/- Parents in a circle are refused; in a row each is one deeper. -/
import Derived.Test.YtahidkjncljkaaaRows
import Derived.WalkKit
import Derived.ProofKit
import Derived.OpenShut
import Derived.JoinedOf
import Derived.ShutString
import Derived.ChangeOld
import Derived.Below
import Derived.SizedLaws
import Derived.Test.YtahidkjncljkaaaBWantCircle0
import Derived.Test.YtahidkjncljkaaaBWantCircle1
set_option linter.unusedVariables false
set_option linter.unusedSimpArgs false
namespace Go.Proofs.Ytahidkjncljkaaa.Print
open Go.RowKit Go.Proofs.YtahidkjncljkaaaW.PrintWords Go.Proofs.YtahidkjncljkaaaW.PrintLast Go.Proofs.YtahidkjncljkaaaW.PrintMore
attribute [local go_sem] max2_int min2_int max_two min_two max_three min_three max_four min_four

end Go.Proofs.Ytahidkjncljkaaa.Print

namespace Go.Proofs.Ytahidkjncljkaaa.Print
open Go.RowKit Go.Proofs.YtahidkjncljkaaaW.PrintWords Go.Proofs.YtahidkjncljkaaaW.PrintLast
end Go.Proofs.Ytahidkjncljkaaa.Print

namespace Go.Proofs.Ytahidkjncljkaaa.Print
open Go.RowKit Go.Proofs.YtahidkjncljkaaaW.PrintWords Go.Proofs.YtahidkjncljkaaaW.PrintLast Go.Proofs.YtahidkjncljkaaaW.PrintMore
attribute [local go_sem] max2_int min2_int max_two min_two max_three min_three max_four min_four

end Go.Proofs.Ytahidkjncljkaaa.Print

namespace Go.Proofs.Ytahidkjncljkaaa.Print
open Go.RowKit Go.Proofs.YtahidkjncljkaaaW.PrintWords Go.Proofs.YtahidkjncljkaaaW.PrintLast
abbrev Want:=S39
abbrev zWant:Want:=z39
theorem rd_want (l:List Want) (i:Int):rd_T39 l i=l.getD i.toNat zWant:=rfl
theorem rd_wantN (l:List Want) {i:Nat} (h:i<l.length):rd_T39 l (i:Int)=l[i]:=by
 rw [rd_want,Int.toNat_natCast,List.getD_eq_getElem?_getD,List.getElem?_eq_getElem h,Option.getD_some]
def itW (w:Want):Item:=⟨w.f0,w.f1,w.f2,⟨0,0,0⟩,⟨0,0,0⟩,0⟩
def lookW (l:List Want) (n:ByteArray):Option Want:=l.find? (fun x=>x.f0=n)
def wfnd (l:List Want) (n:ByteArray):Int:=fidx (fun x:Want=>x.f0.toList==n.toList) l 0
theorem wlook (l:List Want) (n:ByteArray):look (l.map itW) n=(lookW l n).map itW:=by
  unfold look lookW
  induction l with
  |nil=>rfl
  | cons x l ih =>
    rw [List.map_cons,List.find?_cons,List.find?_cons]
    show (match decide (x.f0=n) with|true=>_|false=>_)=_
    by_cases h:x.f0=n
    · simp [h]
    simp [h,ih]
theorem lookW_mem {l:List Want} {n:ByteArray} {x:Want} (h:lookW l n=some x):x∈l∧x.f0=n:=by
 unfold lookW at h
 exact ⟨List.mem_of_find?_eq_some h,by simpa using List.find?_some h⟩
theorem lookW_none {l:List Want} {n:ByteArray}:lookW l n=none↔ ∀x∈l,x.f0≠n:=by
 unfold lookW
 simp
theorem wpred (n:ByteArray):(fun x:Want=>x.f0.toList==n.toList)=(fun x:Want=>decide (x.f0=n)):=by
 funext x;exact nm_beq _ _
theorem wfnd_none {l:List Want} {n:ByteArray} (h:lookW l n=none):wfnd l n= -1:=by
 unfold wfnd
 refine fidx_none fun x hx=> ?_
 rw [nm_beq]
 simpa using lookW_none.1 h x hx
theorem wfnd_some {l:List Want} {n:ByteArray} {x:Want} (h:lookW l n=some x): ∃j:Nat,j<l.length∧wfnd l n=j∧l.getD j zWant=x∧x.f0=n∧ ∀m,m<j→(l.getD m zWant).f0≠n:=by
 have h':l.find? (fun x:Want=>x.f0.toList==n.toList)=some x:=by rw [wpred];exact h
 obtain ⟨j,h1,h2,h3,h4,h5⟩:=fidx_some zWant (i:=0) h'
 refine ⟨j,h1,by unfold wfnd;rw [h2];omega,h3,by simpa [nm_beq] using h4,fun m hm=> ?_⟩
 simpa [nm_beq] using h5 m hm
theorem wfnd_neg {l:List Want} {n:ByteArray}:wfnd l n<0↔lookW l n=none:=by
 cases h:lookW l n with
 |none=>rw [wfnd_none h];simp
 |some x=>obtain ⟨j,h1,h2,_⟩:=wfnd_some h;simp;omega
def depGo (l:List Want):Nat→Int→ByteArray→Int
  |0,_,_=> -1
  | m + 1, d, n => match lookW l n with
    |none=>0
    |some w=>if d+1>(l.length:Int) then -1 else if w.f1=⟨#[]⟩ then d+1 else depGo l m (d+1) w.f1
def depR (l:List Want) (n:ByteArray):Int:=depGo l (l.length+1) 0 n
theorem depGo_succ (l:List Want) (m:Nat) (d:Int) (n:ByteArray):depGo l (m+1) d n=match lookW l n with
 |none=>0
 |some w=>if d+1>(l.length:Int) then -1 else if w.f1=⟨#[]⟩ then d+1 else depGo l m (d+1) w.f1:=rfl
end Go.Proofs.Ytahidkjncljkaaa.Print

namespace Go.Proofs.Ytahidkjncljkaaa.Print
open Go.RowKit Go.Proofs.YtahidkjncljkaaaW.PrintWords Go.Proofs.YtahidkjncljkaaaW.PrintLast Go.Proofs.YtahidkjncljkaaaW.PrintMore
attribute [local go_sem] max2_int min2_int max_two min_two max_three min_three max_four min_four

end Go.Proofs.Ytahidkjncljkaaa.Print

namespace Go.Proofs.Ytahidkjncljkaaa.Print
open Go.RowKit Go.Proofs.YtahidkjncljkaaaW.PrintWords Go.Proofs.YtahidkjncljkaaaW.PrintLast
def ParW (l:List Want):Prop:=(∀w∈l,w.f0≠⟨#[]⟩)∧ ∀w∈l,w.f1≠⟨#[]⟩→ ∃x,lookW l w.f1=some x
abbrev ChainW (l:List Want) (n:ByteArray) (us:List ByteArray):Prop:=Chain (l.map itW) n us
theorem ParW.root {l:List Want} (h:ParW l):lookW l ⟨#[]⟩=none:=lookW_none.2 fun x hx e=>h.1 x hx e
theorem chainW_cons {l:List Want} {n:ByteArray} {us:List ByteArray} {x:Want} (h:lookW l n=some x) (k:ChainW l x.f1 us):ChainW l n (n::us):= .cons (x:=itW x) (by rw [wlook,h];rfl) k
theorem chainW_nil {l:List Want} {n:ByteArray} (h:lookW l n=none):ChainW l n []:= .nil (by rw [wlook,h];rfl)
theorem chainW_inv {l:List Want} {n:ByteArray} {us:List ByteArray} (h:ChainW l n us):(lookW l n=none∧us=[])∨ ∃x vs,lookW l n=some x∧us=n::vs∧ChainW l x.f1 vs:=by
  cases h with
  | nil h1 =>
    rw [wlook] at h1
    exact .inl ⟨by simpa using h1,rfl⟩
  | @cons _ y vs h1 k =>
    rw [wlook] at h1
    obtain ⟨x,hx,rfl⟩:=Option.map_eq_some_iff.1 h1
    exact .inr ⟨x,vs,hx,rfl,k⟩
theorem chainW_len {l:List Want} {n:ByteArray} {us:List ByteArray} (h:ChainW l n us):us.length≤l.length:=by
 have:=h.len
 rwa [List.length_map] at this
theorem depGo_chain {l:List Want} (hp:ParW l): ∀(us:List ByteArray) (m:Nat) (d:Int) (n:ByteArray),ChainW l n us→d+us.length≤l.length→us.length≤m→depGo l (m+1) d n=if us=[] then 0 else d+us.length
  | us, m, d, n, h, hd, hm => by
    rw [depGo_succ]
    rcases chainW_inv h with ⟨h0,e0⟩|⟨x,vs,h0,e0,k⟩
    · subst e0
      rw [h0,if_pos rfl]
    subst e0
    rw [h0]
    dsimp only
    rw [List.length_cons] at hd hm ⊢
    rw [if_neg (show¬d+1>(l.length:Int) by omega),if_neg (show¬(n::vs=[]) by simp)]
    rcases chainW_inv k with ⟨h1,rfl⟩|⟨y,ws,h1,rfl,k1⟩
    · have e:x.f1=⟨#[]⟩:=by
        refine Classical.byContradiction fun q=> ?_
        obtain ⟨z,hz⟩:=hp.2 x (lookW_mem h0).1 q
        rw [h1] at hz;cases hz
      rw [if_pos e];rfl
    have e:x.f1≠⟨#[]⟩:=fun q=>by rw [q,hp.root] at h1;cases h1
    rw [if_neg e]
    match m,hm with
    |0,hm=>omega
    | m + 1, hm =>
      rw [depGo_chain hp (x.f1::ws) m (d+1) x.f1 k (by omega) (by omega),if_neg (by simp)]
      omega
theorem depGo_none {l:List Want} (hp:ParW l): ∀(m:Nat) (d:Int) (n:ByteArray),d+m=l.length→(∀us,¬ChainW l n us)→depGo l (m+1) d n= -1
  | m, d, n, hd, h => by
    rw [depGo_succ]
    cases hx:lookW l n with
    |none=>exact absurd (chainW_nil hx) (h [])
    | some x =>
      dsimp only
      by_cases c:d+1>(l.length:Int)
      · rw [if_pos c]
      have e:x.f1≠⟨#[]⟩:=fun q=>h [n] (chainW_cons hx (chainW_nil (by rw [q];exact hp.root)))
      rw [if_neg c,if_neg e]
      match m,hd with
      |0,hd=>omega
      |m+1,hd=>exact depGo_none hp m (d+1) x.f1 (by omega) (fun us k=>h _ (chainW_cons hx k))
theorem depR_chain {l:List Want} (hp:ParW l) {n:ByteArray} {us:List ByteArray} (h:ChainW l n us):depR l n=us.length:=by
  have hl:=chainW_len h
  unfold depR
  rw [depGo_chain hp us l.length 0 n h (by omega) hl]
  by_cases e:us=[]
  · rw [if_pos e,e];rfl
  rw [if_neg e];omega
theorem depR_none {l:List Want} (hp:ParW l) {n:ByteArray} (h: ∀us,¬ChainW l n us):depR l n= -1:=depGo_none hp _ _ _ (by omega) h
theorem depR_le {l:List Want} (hp:ParW l) (n:ByteArray):depR l n≤l.length:=by
  by_cases h: ∃us,ChainW l n us
  rotate_left
  · rw [depR_none hp (fun us k=>h ⟨us,k⟩)];omega
  obtain ⟨us,h⟩:=h
  rw [depR_chain hp h]
  have:=chainW_len h
  omega
theorem depR_some {l:List Want} (hp:ParW l) {n:ByteArray} {x:Want} (hx:lookW l n=some x) (h:0<depR l n):depR l n=depR l x.f1+1∧0≤depR l x.f1∧(x.f1≠⟨#[]⟩→0<depR l x.f1):=by
  by_cases c: ∃us,ChainW l n us
  rotate_left
  · rw [depR_none hp (fun us k => c ⟨us, k⟩)] at h
    omega
  obtain ⟨us,c⟩:=c
  rcases chainW_inv c with ⟨h1,rfl⟩|⟨y,vs,h1,rfl,k⟩
  · rw [hx] at h1;cases h1
  rw [hx] at h1
  obtain rfl:=Option.some.inj h1
  rw [depR_chain hp c,depR_chain hp k,List.length_cons]
  refine ⟨by omega,by omega,fun e=> ?_⟩
  rcases chainW_inv k with ⟨h2,rfl⟩|⟨z,ws,h2,rfl,k2⟩
  · obtain ⟨z, hz⟩ := hp.2 x (lookW_mem hx).1 e
    rw [h2] at hz;cases hz
  rw [List.length_cons];omega
theorem depR_root {l:List Want} (hp:ParW l):depR l ⟨#[]⟩=0:=depR_chain hp (chainW_nil hp.root)
theorem depR_absent {l:List Want} (hp:ParW l) {n:ByteArray} (h:lookW l n=none):depR l n=0:=depR_chain hp (chainW_nil h)
def mayW (w:Want):Bool:=decide ((w.f0≠⟨#[]⟩∧w.f0.size≤24)∧MayP w.f2)
def ph1:List Want→List Want→Int
 |_,[]=>0
 |pre,w::ws=>if mayW w=true then (if (lookW pre w.f0).isSome=true then 3 else ph1 (pre++ [w]) ws) else 1
def sumGo (n:ByteArray):List Want→Vec→Vec
 |[],v=>v
 |w::ws,v=>sumGo n ws (if w.f1=n then vadd v w.f2 else v)
def sumW (l:List Want) (n:ByteArray):Vec:=sumGo n l ⟨0,0,0⟩
def noPar (l:List Want) (w:Want):Bool:=decide (w.f1≠⟨#[]⟩∧lookW l w.f1=none)
def checkR (l:List Want):Int:=
 if l.length>120 then 4 else if ph1 [] l≠0 then ph1 [] l else if l.any (noPar l)=true then 2 else if l.any (fun w=>decide (depR l w.f0<1))=true then 10 else if l.any (fun w=> !decide (LeP (sumW l w.f0) w.f2))=true then 11 else 0
theorem ph1_ok: ∀{ws pre:List Want},ph1 pre ws=0→ ∀w∈ws,mayW w=true
  |[],_,_,w,hw=>by cases hw
  | x :: ws, pre, h, w, hw => by
    unfold ph1 at h
    by_cases c:mayW x=true
    rotate_left
    · rw [if_neg c] at h;omega
    rw [if_pos c] at h
    by_cases e:(lookW pre x.f0).isSome=true
    · rw [if_pos e] at h;omega
    rw [if_neg e] at h
    rcases List.mem_cons.1 hw with rfl|hw
    · exact c
    exact ph1_ok h w hw
theorem ph1_nodup: ∀{ws pre:List Want},ph1 pre ws=0→(pre.map (·.f0)).Nodup→((pre++ws).map (·.f0)).Nodup
  |[],pre,_,hn=>by rwa [List.append_nil]
  | x :: ws, pre, h, hn => by
    unfold ph1 at h
    by_cases c:mayW x=true
    rotate_left
    · rw [if_neg c] at h;omega
    rw [if_pos c] at h
    by_cases e:(lookW pre x.f0).isSome=true
    · rw [if_pos e] at h;omega
    rw [if_neg e] at h
    have q:=ph1_nodup h (by
      rw [List.map_append,List.map_cons,List.map_nil,List.nodup_append]
      refine ⟨hn,by simp, ?_⟩
      intro a ha b hb
      obtain ⟨y,hy,rfl⟩:=List.mem_map.1 ha
      rw [List.mem_singleton] at hb
      subst hb
      have hz:lookW pre x.f0=none:=by simpa using e
      exact fun q=>lookW_none.1 hz y hy q)
    rwa [List.append_assoc] at q
theorem ph1_01: ∀(ws pre:List Want),ph1 pre ws=0∨ph1 pre ws=1∨ph1 pre ws=3
  |[],_=> .inl rfl
  | x :: ws, pre => by
    unfold ph1
    split
    rotate_left
    · exact .inr (.inl rfl)
    split
    · exact .inr (.inr rfl)
    exact ph1_01 ws _
theorem mayW_iff {w:Want}:mayW w=true↔(w.f0≠⟨#[]⟩∧w.f0.size≤24)∧MayP w.f2:=by unfold mayW;rw [decide_eq_true_iff]
structure TreeW (l:List Want):Prop where
 len:l.length≤120
 may: ∀w∈l,mayW w=true
 nodup:(l.map (·.f0)).Nodup
 par:ParW l
 dep: ∀w∈l,1≤depR l w.f0
theorem any_false {α:Type} {p:α→Bool} {l:List α}: ¬l.any p=true↔ ∀x∈l,p x=false:=by simp
theorem checkR_tree {l:List Want} (h:checkR l=0∨checkR l=11):TreeW l:=by
  unfold checkR at h
  by_cases c0:l.length>120
  · rw [if_pos c0] at h;omega
  rw [if_neg c0] at h
  by_cases c1:ph1 [] l≠0
  · rw [if_pos c1] at h
    rcases ph1_01 l [] with q|q|q<;>omega
  rw [if_neg c1] at h
  have c1':ph1 [] l=0:=by omega
  by_cases c2:l.any (noPar l)=true
  · rw [if_pos c2] at h;omega
  rw [if_neg c2] at h
  by_cases c3:l.any (fun w=>decide (depR l w.f0<1))=true
  · rw [if_pos c3] at h;omega
  have hm:=ph1_ok c1'
  refine ⟨by omega,hm, ?_,⟨fun w hw=>(mayW_iff.1 (hm w hw)).1.1,fun w hw e=> ?_⟩,fun w hw=> ?_⟩
  · have := ph1_nodup c1' (by simp)
    rwa [List.nil_append] at this
  rotate_left
  · have q := any_false.1 c3 w hw
    rw [decide_eq_false_iff_not] at q
    omega
  have q:=any_false.1 c2 w hw
  unfold noPar at q
  rw [decide_eq_false_iff_not] at q
  cases hx:lookW l w.f1 with
  |none=>exact absurd ⟨e,hx⟩ q
  |some x=>exact ⟨x,rfl⟩
theorem nx64 {i n:Nat} (h:i<n) (hn:n<1000000):wrap64 ((i:Int)+1)=((i+1:Nat):Int):=by rw [w64 (by omega) (by omega)];rfl
def UptoV (n:Nat) (v:Vec):Prop:= ∀c:Comp,0≤c.of v∧c.of v≤1099511627776*(n:Int)
theorem uptoV_add {n:Nat} {v u:Vec} (h:UptoV n v) (hu:MayP u):UptoV (n+1) (vadd v u):=fun c=>by
 have:=h c;have:=hu c
 rw [of_vadd]
 omega
theorem uptoV_succ {n:Nat} {v:Vec} (h:UptoV n v):UptoV (n+1) v:=fun c=>by have:=h c;omega
def badSum (l:List Want) (w:Want):Bool:= !decide (LeP (sumW l w.f0) w.f2)
theorem take_next {l:List Want} {i:Nat} (h:i<l.length):l.take (i+1)=l.take i++ [l[i]]:=by
 rw [List.take_add_one,List.getElem?_eq_getElem h];rfl
end Go.Proofs.Ytahidkjncljkaaa.Print

namespace Go.Proofs.Ytahidkjncljkaaa.Print
open Go.RowKit Go.Proofs.YtahidkjncljkaaaW.PrintWords Go.Proofs.YtahidkjncljkaaaW.PrintLast Go.Proofs.YtahidkjncljkaaaW.PrintMore
attribute [local go_sem] max2_int min2_int max_two min_two max_three min_three max_four min_four

end Go.Proofs.Ytahidkjncljkaaa.Print

namespace Go.Proofs.Ytahidkjncljkaaa.Print
open Go.RowKit Go.Proofs.YtahidkjncljkaaaW.PrintWords Go.Proofs.YtahidkjncljkaaaW.PrintLast
def bef (l:List Want) (a b:Want):Bool:=decide (depR l a.f0<depR l b.f0)||(decide (depR l a.f0=depR l b.f0) && lt a.f0 b.f0)
def insT (l:List Want) (w:Want) (out:List Want):List Want:=out.takeWhile (fun a=>bef l a w)++w::out.dropWhile (fun a=>bef l a w)
def topGo (l:List Want) (out:List Want):List Want→List Want
 |[]=>out
 |w::ws=>topGo l (insT l w out) ws
def topR (l:List Want):List Want:=topGo l [] l
theorem bef_irrefl (l:List Want) (a:Want):bef l a a=false:=by unfold bef;rw [decide_eq_false (by omega),lt_irrefl];simp
theorem bef_iff {l:List Want} {a b:Want}:bef l a b=true↔depR l a.f0<depR l b.f0∨(depR l a.f0=depR l b.f0∧lt a.f0 b.f0=true):=by unfold bef;simp
theorem bef_trans {l:List Want} {a b c:Want} (h:bef l a b=true) (k:bef l b c=true):bef l a c=true:=by
  rw [bef_iff] at h k ⊢
  rcases h with h|⟨h,h'⟩<;>rcases k with k|⟨k,k'⟩
  · exact .inl (by omega)
  · exact .inl (by omega)
  · exact .inl (by omega)
  exact .inr ⟨by omega,lt_trans h' k'⟩
theorem bef_total {l:List Want} {a b:Want} (h:bef l a b=false) (hn:a.f0≠b.f0):bef l b a=true:=by
  rw [←Bool.not_eq_true,bef_iff] at h
  rw [bef_iff]
  by_cases e:depR l a.f0=depR l b.f0
  rotate_left
  · exact .inl (by have: ¬depR l a.f0<depR l b.f0:=fun q=>h (.inl q);omega)
  refine .inr ⟨e.symm,lt_total ?_ hn⟩
  rw [←Bool.not_eq_true]
  exact fun q=>h (.inr ⟨e,q⟩)
theorem insT_perm (l:List Want) (w:Want) (out:List Want):(insT l w out).Perm (w::out):=by
 unfold insT
 have:=List.perm_middle (a:=w) (l₁:=out.takeWhile (fun a=>bef l a w)) (l₂:=out.dropWhile (fun a=>bef l a w))
 rwa [List.takeWhile_append_dropWhile] at this
theorem topGo_perm (l:List Want): ∀(ws out:List Want),(topGo l out ws).Perm (out++ws)
  |[],out=>by rw [List.append_nil];exact .refl _
  | w :: ws, out => by
    unfold topGo
    refine (topGo_perm l ws _).trans ?_
    refine ((insT_perm l w out).append_right ws).trans ?_
    exact List.perm_middle.symm
theorem topR_perm (l:List Want):(topR l).Perm l:=topGo_perm l l []
theorem insT_sorted {l:List Want} {w:Want} {out:List Want} (h:out.Pairwise (fun a b=>bef l a b=true)) (hn: ∀a∈out,a.f0≠w.f0):(insT l w out).Pairwise (fun a b=>bef l a b=true):=by
  induction out with
  |nil=>simp [insT]
  | cons x out ih =>
    rw [List.pairwise_cons] at h
    unfold insT
    rw [List.takeWhile_cons,List.dropWhile_cons]
    by_cases c:bef l x w=true
    · rw [c]
      show (x::insT l w out).Pairwise _
      rw [List.pairwise_cons]
      refine ⟨fun a ha=> ?_,ih h.2 (fun a ha=>hn a (by simp [ha]))⟩
      rcases List.mem_cons.1 ((insT_perm l w out).mem_iff.1 ha) with rfl|ha
      · exact c
      exact h.1 a ha
    rw [Bool.eq_false_iff.2 c]
    show (w::x::out).Pairwise _
    have hw:=bef_total (Bool.eq_false_iff.2 c) (hn x (by simp))
    rw [List.pairwise_cons,List.pairwise_cons]
    refine ⟨fun a ha=> ?_,h⟩
    rcases List.mem_cons.1 ha with rfl|ha
    · exact hw
    exact bef_trans hw (h.1 a ha)
theorem topGo_sorted {l:List Want}: ∀{ws out:List Want},out.Pairwise (fun a b=>bef l a b=true)→((out++ws).map (·.f0)).Nodup→(topGo l out ws).Pairwise (fun a b=>bef l a b=true)
  |[],out,h,_=>h
  | w :: ws, out, h, hn => by
    unfold topGo
    have hn2:=hn
    rw [List.map_append,List.map_cons,List.nodup_append] at hn2
    refine topGo_sorted (insT_sorted h (fun a ha q=>hn2.2.2 a.f0 (List.mem_map_of_mem ha) w.f0 (by simp) q)) ?_
    refine (((insT_perm l w out).append_right ws).map _).nodup_iff.2 ?_
    exact ((List.perm_middle (a:=w) (l₁:=out) (l₂:=ws)).map _).nodup_iff.1 hn
theorem topR_sorted {l:List Want} (hn:(l.map (·.f0)).Nodup):(topR l).Pairwise (fun a b=>bef l a b=true):=topGo_sorted (by simp) (by simpa using hn)
theorem top_unique {l t:List Want} (hn:(l.map (·.f0)).Nodup) (hp:t.Perm l) (hs:t.Pairwise (fun a b=>bef l a b=true)):t=topR l:=by
 refine List.Perm.eq_of_pairwise (le:=fun a b=>bef l a b=true) ?_ hs (topR_sorted hn) (hp.trans (topR_perm l).symm)
 intro a b _ _ h1 h2
 have:=bef_trans h1 h2
 rw [bef_irrefl] at this
 cases this
end Go.Proofs.Ytahidkjncljkaaa.Print

namespace Go.Proofs.Ytahidkjncljkaaa.Print
open Go.Shelf Go.RowKit Go.Lib Go.Sort
open Go.Proofs.YtahidkjncljkaaaW.PrintWords Go.Proofs.YtahidkjncljkaaaW.PrintLast Go.Proofs.YtahidkjncljkaaaW.PrintMore
def renS:Ren:=⟨fun n=>if n=20 then 147 else n,fun n=>match n with|0=>0|3=>3|4=>4|22=>22|24=>39|25=>121|m=>m,fun n=>n⟩
theorem laysIns:SlLaysF0.n20 Try.prog renS where
 mixed:=by kernel_rfl
 f20:=⟨ "slices.insertionSortCmpFunc[doorkeeper/api.Want]",by decide,by kernel_rfl⟩
 t0:=Try.underlying0
 a0:=Try.isAgg0
 z0:=Try.sizeOf0
 v0:=Try.zeroValue0
 t3:=Try.underlying3
 a3:=Try.isAgg3
 z3:=Try.sizeOf3
 v3:=Try.zeroValue3
 t4:=Try.underlying4
 a4:=Try.isAgg4
 z4:=Try.sizeOf4
 v4:=Try.zeroValue4
 t22:=Try.underlying22
 a22:=Try.isAgg22
 z22:=Try.sizeOf22
 v22:=Try.zeroValue22
 t25:=Try.underlying121
 a25:=Try.isAgg121
 z25:=Try.sizeOf121
 v25:=Try.zeroValue121
theorem sortT:SortT Try.prog 5 where
 mixed:=by kernel_rfl
 t0:=Try.underlying0
 a0:=Try.isAgg0
 z0:=Try.sizeOf0
 v0:=Try.zeroValue0
 t3:=Try.underlying3
 a3:=Try.isAgg3
 z3:=Try.sizeOf3
 v3:=Try.zeroValue3
 t4:=Try.underlying4
 a4:=Try.isAgg4
 z4:=Try.sizeOf4
 v4:=Try.zeroValue4
 t5:=Try.underlying207
 a5:=Try.isAgg207
 z5:=Try.sizeOf207
 v5:=Try.zeroValue207
 t22:=Try.underlying22
 a22:=Try.isAgg22
 z22:=Try.sizeOf22
 v22:=Try.zeroValue22
 t25:=Try.underlying121
 a25:=Try.isAgg121
 z25:=Try.sizeOf121
 v25:=Try.zeroValue121
 aE:=Try.isAgg39
 zE:=Try.sizeOf39
abbrev SW_:={w:Want // w.f0.size≤maxLen}
instance:Inhabited SW_:=⟨⟨zWant,Nat.zero_le _⟩⟩
def encW (x:SW_):List Value:=[.string x.1.f0, .string x.1.f1, .int .i64 x.1.f2.f0, .int .i64 x.1.f2.f1, .int .i64 x.1.f2.f2]
def cfW (f:ByteArray→Int) (x y:SW_):Int:=cmpW f x.1.f0 y.1.f0
theorem cmpI_neg {x y:Int}:cmpI x y<0↔x<y:=by
  unfold cmpI
  by_cases h1:x<y
  · simp [h1]
  · by_cases h2:y<x<;>simp [h1,h2]
theorem cmpI_zero {x y:Int}:cmpI x y=0↔x=y:=by
  unfold cmpI
  by_cases h1:x<y
  · simp [h1];omega
  · by_cases h2 : y < x
    · simp [h1,h2];omega
    · simp [h1,h2];omega
theorem cmpS_neg {x y:ByteArray}:cmpS x y<0↔lt x y=true:=by
  unfold cmpS
  by_cases h1:lt x y=true
  · simp [h1]
  · by_cases h2:lt y x=true<;>simp [h1,h2]
theorem cmpW_neg {f:ByteArray→Int} {x y:ByteArray}:cmpW f x y<0↔f x<f y∨(f x=f y∧lt x y=true):=by
  unfold cmpW orI
  by_cases h:cmpI (f x) (f y)=0
  · rw [if_pos h, cmpS_neg]
    have:=cmpI_zero.1 h
    constructor
    · exact fun q=> .inr ⟨this,q⟩
    · rintro (q | q)
      · omega
      · exact q.2
  · rw [if_neg h, cmpI_neg]
    have:f x≠f y:=fun q=>h (cmpI_zero.2 q)
    constructor
    · exact fun q=> .inl q
    · rintro (q | q)
      · exact q
      · exact absurd q.1 this
theorem ltOf_W {f:ByteArray→Int} {x y:SW_}:ltOf (cfW f) x y=true↔f x.1.f0<f y.1.f0∨(f x.1.f0=f y.1.f0∧lt x.1.f0 y.1.f0=true):=by
 unfold ltOf cfW
 rw [decide_eq_true_iff,cmpW_neg]
theorem ltOf_Wf {f:ByteArray→Int} {x y:SW_}:ltOf (cfW f) x y=false↔f y.1.f0<f x.1.f0∨(f x.1.f0=f y.1.f0∧lt x.1.f0 y.1.f0=false):=by
  rw [←Bool.not_eq_true,ltOf_W]
  constructor
  · intro h
    by_cases e:f x.1.f0=f y.1.f0
    · exact .inr ⟨e,by rw [←Bool.not_eq_true];exact fun q=>h (.inr ⟨e,q⟩)⟩
    · exact .inl (by have: ¬f x.1.f0<f y.1.f0:=fun q=>h (.inl q);omega)
  · rintro (h | ⟨h, h'⟩) (k | ⟨k, k'⟩)
    · omega
    · omega
    · omega
    · rw [h'] at k';cases k'
theorem lt_ntrans {a b c:ByteArray} (h:lt a b=false) (k:lt b c=false):lt a c=false:=by
  cases q:lt a c with
  |false=>rfl
  | true =>
    by_cases e:b=c
    · rw [e,q] at h;cases h
    · have := lt_trans q (lt_total k e)
      rw [h] at this;cases this
theorem swoW (f:ByteArray→Int):SWO (ltOf (cfW f)) where
  irrefl x:=ltOf_Wf.2 (.inr ⟨rfl,lt_irrefl _⟩)
  trans x y z h k:=by
    rw [ltOf_W] at h k ⊢
    rcases h with h|⟨h,h'⟩<;>rcases k with k|⟨k,k'⟩
    · exact .inl (by omega)
    · exact .inl (by omega)
    · exact .inl (by omega)
    · exact .inr ⟨by omega,lt_trans h' k'⟩
  ntrans x y z h k:=by
    rw [ltOf_Wf] at h k ⊢
    rcases h with h|⟨h,h'⟩<;>rcases k with k|⟨k,k'⟩
    · exact .inl (by omega)
    · exact .inl (by omega)
    · exact .inl (by omega)
    · exact .inr ⟨by omega,lt_ntrans h' k'⟩
theorem sortWorld_block {α:Type} [Inhabited α] (enc:α→List Value) (k:Nat) (w:World) (blk off m:Nat) (dk:Array α) (os:Array Obj) {g:Nat} (hg:g<w.heap.size) (hne:g≠blk):(sortWorldK enc k w blk off m dk os).heap[g]?=w.heap[g]?:=by
 show ((w.heap.modify blk _)++os)[g]?=_
 rw [Array.getElem?_append_left (by simpa using hg),Array.getElem?_modify,if_neg (fun e=>hne e.symm)]
theorem sortWorld_own {α:Type} [Inhabited α] (enc:α→List Value) (k:Nat) (w:World) (blk off m:Nat) (dk:Array α) (os:Array Obj) {c:Array Value} {e:TypeId} {fr:Nat×Nat} (h:w.heap[blk]?=some (.cells c e fr)):(sortWorldK enc k w blk off m dk os).heap[blk]?=some (.cells (putCells id off (flatK enc k dk) c) e fr):=by
 have hl:blk<w.heap.size:=(Array.getElem?_eq_some_iff.1 h).1
 show ((w.heap.modify blk _)++os)[blk]?=_
 rw [Array.getElem?_append_left (by simpa using hl),Array.getElem?_modify,if_pos rfl,h]
 rfl
theorem sortWorld_grown {α:Type} [Inhabited α] (enc:α→List Value) (k:Nat) (w:World) (blk off m:Nat) (dk:Array α) (os:Array Obj):w.grownBy (sortWorldK enc k w blk off m dk os) (some blk) where
 os:=rfl
 tape:=rfl
 output:=rfl
 size:=by
  show w.heap.size≤((w.heap.modify blk _)++os).size
  simp
 block:=fun g hg hne=>sortWorld_block enc k w blk off m dk os hg (fun e=>hne (by rw [e]))
theorem cmpLaysW (f:ByteArray→Int) {w0:World} {gd b mb n:Nat} {v0:Value} (hgd:w0.heap[gd]?=some (.cells #[.pointer (some ⟨b,0,none⟩)] 108 (0,0))) (hb:w0.heap[b]?=some (.cells #[v0, .map (some mb)] 113 (0,0))) (hm:MapAt w0 mb n f) {blk:Nat} (h1:gd≠blk) (h2:b≠blk) (h3:mb≠blk) (off size:Nat):
    CmpLays Try.prog 79 #[.pointer (some ⟨gd,0,none⟩)] encW 5 (cfW f) blk off size w0:=by
  intro m os dk _ x y
  refine wantTop1_calls (sortWorldK encW 5 w0 blk off m dk os) gd b mb n v0 f ?_ ?_ ?_ x.1 y.1 x.2 y.2
  · rw [sortWorld_block _ _ _ _ _ _ _ _ (blk_lt hgd) h1];exact hgd
  · rw [sortWorld_block _ _ _ _ _ _ _ _ (blk_lt hb) h2];exact hb
  · exact hm.kept (sortWorld_block _ _ _ _ _ _ _ _ hm.lt h3)
theorem encW_len (x:SW_):(encW x).length=5:=rfl
theorem encW_one (x:SW_): ∀v∈encW x,v.oneCell'=true:=by
 intro v hv
 simp only [encW,List.mem_cons,List.not_mem_nil,or_false] at hv
 rcases hv with rfl|rfl|rfl|rfl|rfl<;>rfl
def arrW (l:List Want) (h: ∀x∈l,x.f0.size≤maxLen):Array SW_:=(l.attach.map fun x=>(⟨x.1,h x.1 x.2⟩:SW_)).toArray
theorem arrW_list (l:List Want) (h: ∀x∈l,x.f0.size≤maxLen):(arrW l h).toList.map (·.1)=l:=by
 unfold arrW
 rw [List.map_map]
 show l.attach.map (fun x=>x.1)=l
 simp
theorem arrW_size {l:List Want} {d:Array SW_} (h:d.toList.map (·.1)=l):d.size=l.length:=by rw [←h,List.length_map,Array.length_toList]
theorem arrW_get {l:List Want} {d:Array SW_} (h:d.toList.map (·.1)=l) {j:Nat} (hj:j<l.length):d[j]!.1=l[j]:=by
 have hs:=arrW_size h
 have e:(d.toList.map (·.1))[j]?=l[j]?:=by rw [h]
 rw [List.getElem?_map,Array.getElem?_toList,List.getElem?_eq_getElem hj,Array.getElem?_eq_getElem (by omega)] at e
 rw [getElem!_pos d j (by omega)]
 exact Option.some.inj e
theorem flat_get (d:Array SW_) {j i:Nat} (hj:j<d.size) (hi:i<5):(flatK encW 5 d).toList[j*5+i]?=(encW d[j]!)[i]?:=by
 have h:j*5+i<d.size*5:=by omega
 have e1:=get_flatK encW 5 d (j*5+i) h
 rw [show (j*5+i) / 5=j by omega,show (j*5+i) % 5=i by omega] at e1
 rw [Array.getElem?_toList,Array.getElem?_eq_getElem (by simpa using h),List.getElem?_eq_getElem (by rw [encW_len];exact hi)]
 rw [getElem!_pos _ _ (by simpa using h),getElem!_pos _ _ (by rw [encW_len];exact hi)] at e1
 rw [e1]
theorem flat_seg (d:Array SW_) {j:Nat} (hj:j<d.size):((flatK encW 5 d).toList.drop (j*5)).take 5=encW d[j]!:=by
  apply List.ext_getElem?
  intro i
  by_cases hi:i<5
  · rw [List.getElem?_take_of_lt hi,List.getElem?_drop,flat_get d hj hi]
  · rw [List.getElem?_eq_none (by rw [List.length_take];omega),List.getElem?_eq_none (by rw [encW_len];omega)]
theorem flat_len (d:Array SW_):(flatK encW 5 d).toList.length=d.size*5:=by simp
theorem reps_flat (w:World) (base:Nat) (ok:Nat→Prop) (d:Array SW_):Reps (k39.M w base ok) 5 (d.toList.map (·.1)) (flatK encW 5 d).toList:=by
 refine ⟨by rw [flat_len,List.length_map,Array.length_toList],fun j p hp=> ?_⟩
 have hj:j<d.size:=by
  have:=(List.getElem?_eq_some_iff.1 hp).1
  rwa [List.length_map,Array.length_toList] at this
 rw [flat_seg d hj]
 have e:d[j]!.1=p:=by
  rw [List.getElem?_map,Array.getElem?_toList,Array.getElem?_eq_getElem hj] at hp
  rw [getElem!_pos d j hj]
  exact Option.some.inj hp
 rw [←e]
 exact k39_mkM w base ok d[j]!.1
theorem flat_of_reps {w:World} {base:Nat} {ok:Nat→Prop} {l:List Want} {inner:List Value} (h:Reps (k39.M w base ok) 5 l inner) {d:Array SW_} (hd:d.toList.map (·.1)=l):inner=(flatK encW 5 d).toList:=by
  have hs:=arrW_size hd
  apply List.ext_getElem?
  intro t
  by_cases ht:t<d.size*5
  · have hj : t / 5 < l.length := by omega
    have q:=k39_openM (h.2 (t / 5) l[t / 5] (List.getElem?_eq_getElem hj))
    have e:t=(t / 5)*5+t % 5:=by omega
    have q2:=congrArg (fun z=>z[t % 5]?) q
    try dsimp only at q2
    rw [List.getElem?_take_of_lt (by omega),List.getElem?_drop,←e] at q2
    have g:=arrW_get hd hj
    have q3:=flat_get d (j:=t / 5) (i:=t % 5) (by omega) (by omega)
    rw [←e] at q3
    rw [q2,q3]
    unfold encW
    rw [g]
  · rw [List.getElem?_eq_none (by rw [h.1];omega),List.getElem?_eq_none (by rw [flat_len];omega)]
theorem put_take {F cur:Array Value} (h:F.size≤cur.size):(putCells id 0 F cur).toList.take F.size=F.toList:=by
  apply List.ext_getElem?
  intro t
  by_cases ht:t<F.size
  · rw [List.getElem?_take_of_lt ht, Array.getElem?_toList, Array.getElem?_toList, Array.getElem?_eq_getElem ht]
    unfold putCells
    rw [Array.getElem?_mapIdx,Array.getElem?_eq_getElem (by omega)]
    simp [ht]
  · rw [List.getElem?_eq_none (by rw [List.length_take];omega),List.getElem?_eq_none (by rw [Array.length_toList];omega)]
theorem put_size {F cur:Array Value}:(putCells id 0 F cur).size=cur.size:=by unfold putCells;simp
theorem ownW {w:World} {base:Nat} {v:Value} {l:List Want} (h:Kd.R k39 39 w base (fun _=>True) v l):(v= .slice none 0 0∧l=[])∨ ∃g cap cur,v= .slice (some ⟨g,0,none⟩) l.length cap∧base≤g∧w.heap[g]?=some (.cells cur 39 (0,0))∧l.length≤cap∧cap≤maxLen∧cur.size=cap*5∧
    ∀d:Array SW_,d.toList.map (·.1)=l→cur.toList.take (l.length*5)=(flatK encW 5 d).toList:=by
  obtain ⟨_,inner,⟨h1,h2⟩,hr⟩:=h
  rcases h2 with ⟨rfl,h2⟩|⟨g,cap,cur,rfl,hg,hh,hc,hm,hs,ht⟩
  · exact .inl ⟨rfl,List.length_eq_zero_iff.1 h2⟩
  · exact .inr ⟨g,cap,cur,rfl,hg,hh,hc,hm,hs,fun d hd=>ht.trans (flat_of_reps hr hd)⟩
theorem holdsW {w:World} {g n:Nat} {cur:Array Value} {d:Array SW_} (hh:w.heap[g]?=some (.cells cur 39 (0,0))) (ht:cur.toList.take n=(flatK encW 5 d).toList):HoldsK encW 5 w g 0 d:=by
  intro j hj
  have hj':j<(flatK encW 5 d).size:=hj
  rw [Nat.zero_add]
  refine ⟨?_,blk_frozen hh j⟩
  rw [blk_cell hh j]
  have e:(cur.toList.take n)[j]?=(flatK encW 5 d).toList[j]?:=by rw [ht]
  rw [show (flatK encW 5 d).toList[j]?=some (flatK encW 5 d)[j] by rw [Array.getElem?_toList,Array.getElem?_eq_getElem hj']] at e
  have hjn:j<n:=by
    by_cases q:j<n
    · exact q
    · rw [List.getElem?_eq_none (by rw [List.length_take];omega)] at e;cases e
  rw [List.getElem?_take_of_lt hjn,Array.getElem?_toList] at e
  rw [e,getElem!_pos (flatK encW 5 d) j hj']
  rfl
theorem sortedW {w:World} {base g cap m:Nat} {cur:Array Value} {os:Array Obj} {d d':Array SW_} (hg:base≤g) (hh:w.heap[g]?=some (.cells cur 39 (0,0))) (hc:d.size≤cap) (hm:cap≤maxLen) (hs:cur.size=cap*5) (hd:d'.size=d.size):
    Kd.R k39 39 (sortWorldK encW 5 w g 0 m d' os) base (fun _=>True) (.slice (some ⟨g,0,none⟩) d.size cap) (d'.toList.map (·.1)):=by
  refine ⟨fun _ _=>trivial,(flatK encW 5 d').toList,⟨by rw [flat_len,List.length_map,Array.length_toList];rfl, .inr ⟨g,cap,_, ?_,hg,sortWorld_own encW 5 w g 0 m d' os hh, ?_,hm, ?_, ?_⟩⟩,reps_flat _ _ _ d'⟩
  · rw [List.length_map,Array.length_toList,hd]
  · rw [List.length_map,Array.length_toList];omega
  · rw [put_size,hs];rfl
  · have e : (List.map (·.1) d'.toList).length * 5 = (flatK encW 5 d').size := by rw [List.length_map, Array.length_toList, size_flatK]
    show (putCells id 0 (flatK encW 5 d') cur).toList.take ((List.map (·.1) d'.toList).length*5)=_
    rw [e]
    exact put_take (by rw [size_flatK,hs];omega)
theorem insN_w (f:ByteArray→Int) {w0:World} {blk cap g:Nat} {cb:Array Value} {d0:Array SW_} (eg: ∀args w,(callFunc g args).run Try.prog w= .ok (.enter g args) w) (hcmp:CmpLays Try.prog g cb encW 5 (cfW f) blk 0 d0.size w0) (R:RowK encW 5 w0 blk 0 d0) (hsz:d0.size<576460752303423488):InsN Try.prog encW (cfW f) 5 g cb blk 0 cap d0 w0:=by
 intro a b d w hs S hab hb
 have hins:=insertionSort_holds (swoW f) d a b hab hb
 have hC:CmpLays Try.prog g cb encW 5 (cfW f) blk 0 d.size w:=fun m os dk hdk x y=>by
  obtain ⟨n0,os0,rfl⟩:=S
  rw [sortWorldK_on encW 5 w0 blk 0 n0 m d dk os0 os R.hblk hdk]
  exact hcmp _ _ dk (by omega) x y
 have key:=AnyQ.insertionSortCmpFunc laysIns 5 Try.isAgg39 Try.sizeOf39 encW encW_len encW_one (cfW f) g cb blk 0 cap a b d w eg hC (S.holds R.hblk R.hH hs.symm) (S.lt R.hblk) hab hb (by omega)
 refine Calls.mono (show Calls Try.prog 147 _ w _ from key) ?_
 rintro e w' ⟨rfl,n,os,rfl⟩
 exact ⟨rfl,_,S.on R.hblk n _ os hins.1.1,hins.2,hins.1⟩
set_option maxRecDepth 100000 in
theorem insNil_calls (c:Nat) (fv:Value) (w:World):Calls Try.prog 147 #[.slice none 0 c, .int .i64 0, .int .i64 0,fv] w fun e w'=>e= .returned (.tuple #[])∧w'=w:=by
 go_enter Try.func147,Try.ntmps147
 go_wp2
 refine wp_loop_rounds 1 ?_
 rw [rounds_succ]
 go_wp2
 go_end0
 exact ⟨rfl,rfl⟩
set_option maxRecDepth 100000 in
theorem stableNil_calls (c:Nat) (fv:Value) (w:World):Calls Try.prog 116 #[.slice none 0 c, .int .i64 0,fv] w fun e w'=>e= .returned (.tuple #[])∧w'=w:=by
 go_enter Try.func116,Try.ntmps116
 go_wp2
 refine wp_loop_rounds 1 ?_
 rw [rounds_succ]
 go_wp2_with (go_at_call 147;refine (insNil_calls _ _ _).mono ?_;rintro e w1 ⟨rfl,rfl⟩)
 refine wp_loop_rounds 1 ?_
 rw [rounds_succ]
 go_wp2
 go_end0
 exact ⟨rfl,rfl⟩
set_option maxHeartbeats 1000000 in
set_option maxRecDepth 100000 in
theorem sortWants_calls (f:ByteArray→Int) {w:World} {base gd b mb n:Nat} {v0 v:Value} {l:List Want} (hgd:w.heap[gd]?=some (.cells #[.pointer (some ⟨b,0,none⟩)] 108 (0,0))) (hb:w.heap[b]?=some (.cells #[v0, .map (some mb)] 113 (0,0))) (hm:MapAt w mb n f) (hR:Kd.R k39 39 w base (fun _=>True) v l) (hs: ∀x∈l,x.f0.size≤maxLen) (hl:l.length≤1000)
    (hmb: ∀k,v.ownBlock=some k→mb≠k):
    Calls Try.prog 78 #[v, .func (.func 79) #[] #[.pointer (some ⟨gd,0,none⟩)]] w fun e w'=>e= .returned (.tuple #[])∧ ∃l',Kd.R k39 39 w' base (fun _=>True) v l'∧l'.Perm l∧l'.Pairwise (fun x y=> ¬cmpW f y.f0 x.f0<0)∧w.grownBy w' v.ownBlock:=by
  rcases ownW hR with ⟨rfl,rfl⟩|⟨g,cap,cur,rfl,hg,hh,hc,hcm,hcs,hflat⟩
  · have HR := Aside0.mk hR
    go_enter Try.func78,Try.ntmps78
    go_wp2_with (go_at_call 116;refine (stableNil_calls _ _ _).mono ?_;rintro e w1 ⟨rfl,rfl⟩)
    go_end0
    exact ⟨rfl,[],HR.out, .refl _, .nil,⟨rfl,rfl,rfl,Nat.le_refl _,fun _ _ _=>rfl⟩⟩
  · obtain ⟨d, hd⟩ : ∃ d : Array SW_, d.toList.map (·.1) = l := ⟨arrW l hs, arrW_list l hs⟩
    have hds:=arrW_size hd
    have hH:=holdsW hh (hflat d hd)
    have R:RowK encW 5 w g 0 d:=⟨encW_len,encW_one,hH,blk_lt hh⟩
    have ne1:gd≠g:=by rintro rfl;rw [hgd] at hh;simp at hh
    have ne2:b≠g:=by rintro rfl;rw [hb] at hh;simp at hh
    have ne3:mb≠g:=hmb g (by simp [Value.ownBlock])
    have hcmp:=cmpLaysW f hgd hb hm ne1 ne2 ne3 0 d.size
    have eg: ∀args w,(callFunc 79 args).run Try.prog w= .ok (.enter 79 args) w:=enters_of Try.func79 (by kernel_rfl) rfl
    have hI:=insN_w f (cap:=cap) eg hcmp R (by omega)
    have hY:=symMerge_w Try.func176 Try.func169 Try.func148 sortT encW (cfW f) 79 #[.pointer (some ⟨gd,0,none⟩)] g 0 cap d w eg hcmp R (swoW f) (by omega)
    have key:=stable_w Try.func147 Try.func148 Try.func116 sortT encW (cfW f) 79 #[.pointer (some ⟨gd,0,none⟩)] g 0 cap d w hI hY (by omega) d w rfl (SWK.start hH)
    rw [hds] at key
    have fin: ∀d':Array SW_,∀w',SWK encW 5 w g 0 d' w'→SortedIn (ltOf (cfW f)) 0 l.length d'→PermIn 0 l.length d d'→ ∃l',Kd.R k39 39 w' base (fun _=>True) (.slice (some ⟨g,0,none⟩) l.length cap) l'∧l'.Perm l∧l'.Pairwise (fun x y=> ¬cmpW f y.f0 x.f0<0)∧w.grownBy w' (some g):=by
      rintro d' w' ⟨m,os,rfl⟩ hso hp
      have hd':=hp.1
      have r:=sortedW (m:=m) (os:=os) (d:=d) (d':=d') hg hh (by omega) hcm hcs hd'
      rw [hds] at r
      refine ⟨_,r, ?_, ?_,sortWorld_grown encW 5 w g 0 m d' os⟩
      · have q := hp.2.2
        rw [show d'.extract 0 l.length=d' by rw [←hds,←hd'];exact Array.extract_size,show d.extract 0 l.length=d by rw [←hds];exact Array.extract_size] at q
        have:=q.map (·.1)
        rwa [hd] at this
      · rw [List.pairwise_map, List.pairwise_iff_getElem]
        intro i j hi hj hij
        rw [Array.length_toList] at hi hj
        have q:=hso i j (Nat.zero_le _) hij (by omega)
        rw [getElem!_pos d' i hi,getElem!_pos d' j hj] at q
        unfold ltOf at q
        rw [decide_eq_false_iff_not] at q
        exact q
    have FIN:=Aside0.mk fin
    clear fin hI hY hcmp R hH eg hgd hb hm hR hh hflat hd
    go_enter Try.func78,Try.ntmps78
    go_wp2_with (go_at_call 116;refine key.mono ?_;rintro e w1 ⟨rfl,d',S,X,Y⟩;have T:=Aside0.mk (FIN.out d' w1 S X Y);clear S X Y)
    go_end0
    obtain ⟨l',h1,h2,h3,h4⟩:=T.out
    exact ⟨rfl,l',h1,h2,h3,by simpa [Value.ownBlock] using h4⟩
end Go.Proofs.Ytahidkjncljkaaa.Print

namespace Go.Proofs.Ytahidkjncljkaaa.Print
open Go.RowKit Go.Proofs.YtahidkjncljkaaaW.PrintWords Go.Proofs.YtahidkjncljkaaaW.PrintLast Go.Proofs.YtahidkjncljkaaaW.PrintMore
attribute [local go_sem] max2_int min2_int max_two min_two max_three min_three max_four min_four

def TopIs (l t:List (S39)):Prop:=t.Perm l∧t.Pairwise (fun x y=> ¬cmpW (fillR l) y.f0 x.f0<0)
noncomputable def want_Top.f (l0:List (S39)):Option (List (S39)):=open Classical in if h:l0.length≤1000∧smallW l0∧ ∃t,TopIs l0 t∧ ∀t',TopIs l0 t'→t'=t then some h.2.2.choose else none
set_option maxHeartbeats 8000000 in
set_option maxRecDepth 100000 in
theorem want_Top.calls (A0:Option Addr) (c0:Nat) (l0:List (S39)) (r:List (S39)) (w:World) (hr0:Kd.C k39 w A0 l0.length l0) (hc0:l0.length≤c0) (h:want_Top.f l0=some r):
    Calls Try.prog 30 #[.slice A0 l0.length c0] w fun e w'=> ∃v0_:Value,e= .returned (v0_)∧Kd.R k39 39 w' w.heap.size (fun _=>True) v0_ r∧Below w.heap.size w w':=by
  unfold want_Top.f at h
  split at h
  rotate_left
  · cases h


  rename_i hh
  have hlim:slices_Clone_Want.f l0=some l0:=by unfold slices_Clone_Want.f;rw [if_pos (by have:=hh.1;omega)]
  have UQ:=am_ (show∀t',TopIs l0 t'→t'=r from by
    have q:=Option.some.inj h
    subst q
    have s:=hh.2.2.choose_spec
    exact s.2)
  obtain ⟨hl,hs,_⟩:=hh
  clear h
  have hu113:=Try.underlying113
  have hcall:=wantMade_calls A0 c0 l0 w hr0 hc0 hl hs
  have HR:=Aside0.mk hr0
  have HC:=Aside0.mk hc0
  have HL:=Aside0.mk hl
  have HS:=am_ (show∀x∈l0,x.f0.size≤maxLen from fun x hx=>by have:=(hs x hx).1;unfold maxLen;omega)
  have LM:=Aside0.mk hlim
  clear hr0 hc0 hl hs hlim
  go_enter Try.func30,Try.ntmps30
  go_wp2_with (first|(go_at_call 76;refine hcall.mono ?_;rintro e w3 ⟨b,mb,n,rfl,hgb,hbk,hm,hb⟩;have BK:=Aside0.mk hbk;have MP:=Aside0.mk hm;have HB:=Aside0.mk hb;clear hgb hbk hm hb hcall)|((with_reducible refine gate_dst (N:=3) rfl ?_);refine bx_ (N:=3) (cs:=#[.pointer none]) (t:=108) ?_;intro gb3 hg w4 hbox hb;have hbl:=blk_lt BK.out;replace BK:=am_ (blk_below BK.out hb);have BK3:=am_ (hbox);have GE3:=am_ ((by rw [hg];exact below_size HB.out:w.heap.size≤gb3));replace HB:=am_ (below_step HB.out hb);have EQ3:=am_ (hg);have NEB:=am_ (show b≠gb3 from by have:=hbl;rw [EQ3.out];exact Nat.ne_of_lt this);have NEM:=am_ (show mb≠gb3 from by have:=MP.out.lt;rw [EQ3.out];exact Nat.ne_of_lt this);have m_:=am_ (MP.out.below hb);clear MP;have MP:=m_;clear m_ hbl hb hbox hg)|((with_reducible refine gate_store (t:=108) (p:=3) (v:= .tmp 6) rfl ?_);refine store_all BK3.out 108 (.tmp 3) (.tmp 6) rfl rfl rfl (.pointer (some ⟨b,0,none⟩)) [.pointer (some ⟨b,0,none⟩)] rfl rfl rfl (by kernel_rfl) rfl (by intro q hq;simp only [List.mem_cons,List.not_mem_nil,or_false] at hq;rcases hq with rfl<;>rfl) ?_;intro w5 hbk hg;replace BK:=am_ (blk_put_other BK.out hg (NEB.out));replace HB:=am_ (below_put HB.out (below_size HB.out) hg GE3.out);replace MP:=am_ (MP.out.other hg NEM.out);replace BK3:=am_ (hbk);clear hbk hg)|(go_at_call 77;refine (slices_Clone_Want.calls A0 c0 l0 l0 _ (Kd.C_below HR.out HB.out) HC.out LM.out).mono ?_;rintro e w6 ⟨v,rfl,hr,hb⟩;have HNE:=am_ (show∀k,v.ownBlock=some k→mb≠k∧w.heap.size≤k from fun k hk=>by (have q:_≤k:=(by obtain ⟨_,inner,q,_⟩:=hr;exact own_base q k hk);have:=MP.out.lt;have:=below_size HB.out;omega));have n0_:=am_ (Kd.R_lower hr (below_size HB.out));have n1_:=am_ (blk_below BK.out hb);have n2_:=am_ (blk_below BK3.out hb);have n3_:=am_ (MP.out.below hb);have n4_:=am_ (below_step HB.out hb);clear BK BK3 MP HB hr hb;have HV:=n0_;have BK:=n1_;have BK3:=n2_;have MP:=n3_;have HB:=n4_;clear n0_ n1_ n2_ n3_ n4_)|(go_at_call 78;refine (sortWants_calls (fillR l0) BK3.out BK.out MP.out HV.out HS.out HL.out (fun k hk=>(HNE.out k hk).1)).mono ?_;rintro e w7 ⟨rfl,l',hr,hp,hso,hg⟩;have HO:=am_ (show Kd.R k39 39 w7 w.heap.size (fun _=>True) v r from UQ.out l' ⟨hp,hso⟩▸hr);have n0_:=am_ (pw_below_grown HB.out v.ownBlock (below_size HB.out) hg (fun k hk=>(HNE.out k hk).2));clear HV BK BK3 MP HB hr hp hso hg;have HB:=n0_;clear n0_))
  go_ret
  exact ⟨_,rfl,HO.out,HB.out⟩
noncomputable def law11_awake.f (k:Nat):Option (Bool):=(some (([(⟨(⟨#[98]⟩:ByteArray),(⟨#[97]⟩:ByteArray),(⟨0,0,0⟩:S37)⟩:S39),(⟨(⟨#[97]⟩:ByteArray),(⟨#[]⟩:ByteArray),(⟨0,0,0⟩:S37)⟩:S39)]:List (S39)):List (S39))).bind fun y1=>((want_Top.f y1).bind fun t4=>((want_Check.f k ([]:List (S39))).bind fun t7=>((law1_Num.f t7).bind fun t8=>(if t8=0 then (if (t4.length:Int)=2 then (if 0<(t4.length:Int) then (if ((rd_T39 t4 0).f0).toList=([97]:List UInt8) then ((want_Depth.f y1 (⟨#[98]⟩:ByteArray)).bind fun t10=>(some (t10==2))) else (some false)) else (none)) else (some false)) else (some false)))))
theorem law11_awake.mono: ∀k,LeO (law11_awake.f k) (law11_awake.f (k+1)):=by
 intro k
 unfold law11_awake.f
 repeat' first
  |(with_reducible exact want_Check.mono _ _)
  |(with_reducible exact LeO.refl _)
  |(with_reducible exact LeO.none _)
  |(with_reducible refine LeO.ite ?_ ?_)
  |(with_reducible refine LeO.bind ?_ (fun _=> ?_))
  |exact want_Check.mono _ _
  |exact LeO.none _
  |refine LeO.ite ?_ ?_
  |refine LeO.bind ?_ (fun _=> ?_)
set_option maxHeartbeats 8000000 in
set_option maxRecDepth 100000 in
theorem law11_awake.calls (k:Nat) (r:Bool) (w:World) (h:law11_awake.f k=some r):
  Calls Try.prog 23 #[] w fun e w'=>e= .returned (.bool r)∧Below w.heap.size w w':=by
 have hu39:=Try.underlying39
 have HB:=am_ (Below.refl w.heap.size w)
 have H:((some (([(⟨(⟨#[98]⟩:ByteArray),(⟨#[97]⟩:ByteArray),(⟨0,0,0⟩:S37)⟩:S39),(⟨(⟨#[97]⟩:ByteArray),(⟨#[]⟩:ByteArray),(⟨0,0,0⟩:S37)⟩:S39)]:List (S39)):List (S39))).bind fun y1=>((want_Top.f y1).bind fun t4=>((want_Check.f k ([]:List (S39))).bind fun t7=>((law1_Num.f t7).bind fun t8=>(if t8=0 then (if (t4.length:Int)=2 then (if 0<(t4.length:Int) then (if ((rd_T39 t4 0).f0).toList=([97]:List UInt8) then ((want_Depth.f y1 (⟨#[98]⟩:ByteArray)).bind fun t10=>(some (t10==2))) else (some false)) else (none)) else (some false)) else (some false))))))=some r:=h
 clear h
 obtain ⟨y1,hy1⟩: ∃y_:List (S39),y_=(([(⟨(⟨#[98]⟩:ByteArray),(⟨#[97]⟩:ByteArray),(⟨0,0,0⟩:S37)⟩:S39),(⟨(⟨#[97]⟩:ByteArray),(⟨#[]⟩:ByteArray),(⟨0,0,0⟩:S37)⟩:S39)]:List (S39))):=⟨_,rfl⟩
 replace H:((want_Top.f y1).bind fun t4=>((want_Check.f k ([]:List (S39))).bind fun t7=>((law1_Num.f t7).bind fun t8=>(if t8=0 then (if (t4.length:Int)=2 then (if 0<(t4.length:Int) then (if ((rd_T39 t4 0).f0).toList=([97]:List UInt8) then ((want_Depth.f y1 (⟨#[98]⟩:ByteArray)).bind fun t10=>(some (t10==2))) else (some false)) else (none)) else (some false)) else (some false)))))=some r:=by first|(rw [hy1];with_reducible exact H)|(have H2_:=(Option.bind_some _ _).symm.trans H;rw [hy1];with_reducible exact H2_)|(have H2_:=(Option.bind_some _ _).symm.trans H;with_reducible exact H2_)|with_reducible exact H|(rw [hy1];exact H)|exact H
 have Ny1:=Aside0.mk hy1
 clear hy1
 replace H:=Option.bind_eq_some_iff.mp H
 obtain ⟨t4,A10,H⟩:=H
 try dsimp only at H
 have A1:=Aside0.mk A10
 clear A10
 replace H:=Option.bind_eq_some_iff.mp H
 obtain ⟨t7,A20,H⟩:=H
 try dsimp only at H
 have A2:=Aside0.mk A20
 clear A20
 replace H:=Option.bind_eq_some_iff.mp H
 obtain ⟨t8,A30,H⟩:=H
 try dsimp only at H
 have A3:=Aside0.mk A30
 clear A30
 by_cases c4:t8=0
 rotate_left
 ·rw [if_neg c4] at H
  have c4b0:(t8==0)=false:=beq_eq_false_iff_ne.mpr c4
  have c4b1:(t8 !=0)=true:=bne_iff_ne.mpr c4
  obtain rfl:=Option.some.inj H
  go_enter Try.func23,Try.ntmps23
  go_wp2_with (first|((with_reducible refine gate_dst (N:=5) rfl ?_);(try (refine gate_guard (by rfl) ?_;dsimp only));refine Kd.R_lit k39 _ 39 ?hg (N:=5) ?hd (xs:=([(⟨(⟨#[98]⟩:ByteArray),(⟨#[97]⟩:ByteArray),(⟨0,0,0⟩:S37)⟩:S39),(⟨(⟨#[97]⟩:ByteArray),(⟨#[]⟩:ByteArray),(⟨0,0,0⟩:S37)⟩:S39)]:List (S39))) (inner:=[.string (⟨#[98]⟩:ByteArray), .string (⟨#[97]⟩:ByteArray), .int .i64 0, .int .i64 0, .int .i64 0, .string (⟨#[97]⟩:ByteArray), .string (⟨#[]⟩:ByteArray), .int .i64 0, .int .i64 0, .int .i64 0]) (ok:=fun _=>True) (okp:=fun _=>True) ?hr ?hp (fun _ hk=>hk) trivial (Below.refl _ _) (Nat.le_refl _) (by simp) ?_;(case hd=>rfl);(case hg=>rfl);(case hr=>first|(go_simp;done)|(go_simp;rfl));(case hp=>exact (Reps.c5 (show Kd.M k39 _ _ _ (⟨(⟨#[98]⟩:ByteArray),(⟨#[97]⟩:ByteArray),(⟨0,0,0⟩:S37)⟩:S39) [.string (⟨#[98]⟩:ByteArray), .string (⟨#[97]⟩:ByteArray), .int .i64 0, .int .i64 0, .int .i64 0] from (k39_mkM _ _ _ (⟨(⟨#[98]⟩:ByteArray),(⟨#[97]⟩:ByteArray),(⟨0,0,0⟩:S37)⟩:S39))) (Reps.c5 (show Kd.M k39 _ _ _ (⟨(⟨#[97]⟩:ByteArray),(⟨#[]⟩:ByteArray),(⟨0,0,0⟩:S37)⟩:S39) [.string (⟨#[97]⟩:ByteArray), .string (⟨#[]⟩:ByteArray), .int .i64 0, .int .i64 0, .int .i64 0] from (k39_mkM _ _ _ (⟨(⟨#[97]⟩:ByteArray),(⟨#[]⟩:ByteArray),(⟨0,0,0⟩:S37)⟩:S39))) (Reps.none _ _))));intro v2 w28 ho29 hb hg_ hnew_;clear hg_ hnew_;(first|rw [←Ny1.out] at ho29|(simp only [Int.reduceToNat] at ho29;rw [←Ny1.out] at ho29));have HO3:=am_ (Kd.R_lower ho29 (below_size (zl0_ HB)));replace HB:=am_ (below_step (zl0_ HB) hb);clear hb ho29;obtain ⟨Ao30,co30,eo30⟩:=Kd.R_slice HO3.out;subst eo30)|((with_reducible refine gate_callee (f:=30) rfl ?_);refine gl_ (some 7) Try.func30 #[.slice Ao30 y1.length co30] ?_;(with_reducible refine (want_Top.calls _ _ y1 t4 _ ?side1 ?side2 A1.out).mono ?_);(case side1=>exact zc_ (Kd.R_reads' HO3.out).2.2);(case side2=>exact (Kd.R_reads' HO3.out).2.1);rintro e w31 ⟨v5,rfl,ho0,hb⟩;refine ⟨_,rfl, ?_⟩;have HO6:=am_ (Kd.R_lower (Kd.R_new' ho0 (Kd.R_lt (zr_ HO3))) (below_size (zl0_ HB)));replace HO3:=am_ (Kd.R_elder' (zr_ HO3) (Kd.R_base ho0) hb);replace HB:=am_ (below_step (zl0_ HB) hb);(try clear hb);(try clear hb2);(try clear hk);(try clear hi);(try clear ho0))|((with_reducible refine gate_callee (f:=26) rfl ?_);refine gl_ (some 8) Try.func26 #[.slice none 0 0] ?_;(refine (want_Check.calls k _ _ ([]:List (S39)) t7 _ ?side1 ?side2 A2.out).mono ?_);(case side1=>exact Kd.C_nil _ _);(case side2=>exact Nat.le_refl _);rintro e w32 ⟨rfl,hb⟩;refine ⟨_,rfl, ?_⟩;replace HO3:=am_ (Kd.R_below (zr_ HO3) hb);replace HO6:=am_ (Kd.R_below (zr_ HO6) hb);replace HB:=am_ (below_step (zl0_ HB) hb);(try clear hb);(try clear hb2);(try clear hk);(try clear hi))|((with_reducible refine gate_callee (f:=25) rfl ?_);refine gl_ (some 9) Try.func25 #[.int .i64 t7] ?_;(with_reducible refine (law1_Num.calls t7 t8 _ A3.out).mono ?_);rintro e w' ⟨rfl,⟨nd,rfl⟩⟩;refine ⟨_,rfl, ?_⟩))
  go_ret
  exact ⟨by first|rfl|(simp [errW_none,errW_some]<;>rfl)|(simp [*,errW_none,errW_some]<;>rfl),zl0_ HB⟩

 rw [if_pos c4] at H
 have c4b0:(t8==0)=true:=beq_iff_eq.mpr c4
 have c4b1:(t8 !=0)=false:=bne_eq_false_iff_eq.mpr c4
 clear c4
 by_cases c5:(t4.length:Int)=2
 rotate_left
 ·rw [if_neg c5] at H
  have c5b0:((t4.length:Int)==2)=false:=beq_eq_false_iff_ne.mpr c5
  have c5b1:((t4.length:Int) !=2)=true:=bne_iff_ne.mpr c5
  obtain rfl:=Option.some.inj H
  go_enter Try.func23,Try.ntmps23
  go_wp2_with (first|((with_reducible refine gate_dst (N:=5) rfl ?_);(try (refine gate_guard (by rfl) ?_;dsimp only));refine Kd.R_lit k39 _ 39 ?hg (N:=5) ?hd (xs:=([(⟨(⟨#[98]⟩:ByteArray),(⟨#[97]⟩:ByteArray),(⟨0,0,0⟩:S37)⟩:S39),(⟨(⟨#[97]⟩:ByteArray),(⟨#[]⟩:ByteArray),(⟨0,0,0⟩:S37)⟩:S39)]:List (S39))) (inner:=[.string (⟨#[98]⟩:ByteArray), .string (⟨#[97]⟩:ByteArray), .int .i64 0, .int .i64 0, .int .i64 0, .string (⟨#[97]⟩:ByteArray), .string (⟨#[]⟩:ByteArray), .int .i64 0, .int .i64 0, .int .i64 0]) (ok:=fun _=>True) (okp:=fun _=>True) ?hr ?hp (fun _ hk=>hk) trivial (Below.refl _ _) (Nat.le_refl _) (by simp) ?_;(case hd=>rfl);(case hg=>rfl);(case hr=>first|(go_simp;done)|(go_simp;rfl));(case hp=>exact (Reps.c5 (show Kd.M k39 _ _ _ (⟨(⟨#[98]⟩:ByteArray),(⟨#[97]⟩:ByteArray),(⟨0,0,0⟩:S37)⟩:S39) [.string (⟨#[98]⟩:ByteArray), .string (⟨#[97]⟩:ByteArray), .int .i64 0, .int .i64 0, .int .i64 0] from (k39_mkM _ _ _ (⟨(⟨#[98]⟩:ByteArray),(⟨#[97]⟩:ByteArray),(⟨0,0,0⟩:S37)⟩:S39))) (Reps.c5 (show Kd.M k39 _ _ _ (⟨(⟨#[97]⟩:ByteArray),(⟨#[]⟩:ByteArray),(⟨0,0,0⟩:S37)⟩:S39) [.string (⟨#[97]⟩:ByteArray), .string (⟨#[]⟩:ByteArray), .int .i64 0, .int .i64 0, .int .i64 0] from (k39_mkM _ _ _ (⟨(⟨#[97]⟩:ByteArray),(⟨#[]⟩:ByteArray),(⟨0,0,0⟩:S37)⟩:S39))) (Reps.none _ _))));intro v2 w22 ho23 hb hg_ hnew_;clear hg_ hnew_;(first|rw [←Ny1.out] at ho23|(simp only [Int.reduceToNat] at ho23;rw [←Ny1.out] at ho23));have HO3:=am_ (Kd.R_lower ho23 (below_size (zl0_ HB)));replace HB:=am_ (below_step (zl0_ HB) hb);clear hb ho23;obtain ⟨Ao24,co24,eo24⟩:=Kd.R_slice HO3.out;subst eo24)|((with_reducible refine gate_callee (f:=30) rfl ?_);refine gl_ (some 7) Try.func30 #[.slice Ao24 y1.length co24] ?_;(with_reducible refine (want_Top.calls _ _ y1 t4 _ ?side1 ?side2 A1.out).mono ?_);(case side1=>exact zc_ (Kd.R_reads' HO3.out).2.2);(case side2=>exact (Kd.R_reads' HO3.out).2.1);rintro e w25 ⟨v5,rfl,ho0,hb⟩;refine ⟨_,rfl, ?_⟩;have HO6:=am_ (Kd.R_lower (Kd.R_new' ho0 (Kd.R_lt (zr_ HO3))) (below_size (zl0_ HB)));replace HO3:=am_ (Kd.R_elder' (zr_ HO3) (Kd.R_base ho0) hb);replace HB:=am_ (below_step (zl0_ HB) hb);(try clear hb);(try clear hb2);(try clear hk);(try clear hi);(try clear ho0))|((with_reducible refine gate_callee (f:=26) rfl ?_);refine gl_ (some 8) Try.func26 #[.slice none 0 0] ?_;(refine (want_Check.calls k _ _ ([]:List (S39)) t7 _ ?side1 ?side2 A2.out).mono ?_);(case side1=>exact Kd.C_nil _ _);(case side2=>exact Nat.le_refl _);rintro e w26 ⟨rfl,hb⟩;refine ⟨_,rfl, ?_⟩;replace HO3:=am_ (Kd.R_below (zr_ HO3) hb);replace HO6:=am_ (Kd.R_below (zr_ HO6) hb);replace HB:=am_ (below_step (zl0_ HB) hb);(try clear hb);(try clear hb2);(try clear hk);(try clear hi))|((with_reducible refine gate_callee (f:=25) rfl ?_);refine gl_ (some 9) Try.func25 #[.int .i64 t7] ?_;(with_reducible refine (law1_Num.calls t7 t8 _ A3.out).mono ?_);rintro e w' ⟨rfl,⟨nd,rfl⟩⟩;refine ⟨_,rfl, ?_⟩;obtain ⟨Ao27,co27,eo27⟩:=Kd.R_slice HO6.out;subst eo27))
  go_ret
  exact ⟨by first|rfl|(simp [errW_none,errW_some]<;>rfl)|(simp [*,errW_none,errW_some]<;>rfl),zl0_ HB⟩
 rw [if_pos c5] at H
 have c5b0:((t4.length:Int)==2)=true:=beq_iff_eq.mpr c5
 have c5b1:((t4.length:Int) !=2)=false:=bne_eq_false_iff_eq.mpr c5
 clear c5
 by_cases c6:0<(t4.length:Int)
 rotate_left
 ·rw [if_neg c6] at H
  exact absurd H (by simp)
 rw [if_pos c6] at H
 have c6b0:decide (0<(t4.length:Int))=true:=decide_eq_true c6
 have c6b1:decide (0<t4.length)=true:=decide_eq_true (by omega)
 clear c6
 by_cases c7:((rd_T39 t4 0).f0).toList=([97]:List UInt8)
 rotate_left
 ·rw [if_neg c7] at H
  have c7b0:(((rd_T39 t4 0).f0).toList==([97]:List UInt8))=false:=beq_eq_false_iff_ne.mpr c7
  have c7b1:(((rd_T39 t4 0).f0).toList !=([97]:List UInt8))=true:=bne_iff_ne.mpr c7
  obtain rfl:=Option.some.inj H
  go_enter Try.func23,Try.ntmps23
  go_wp2_with (first|((with_reducible refine gate_dst (N:=5) rfl ?_);(try (refine gate_guard (by rfl) ?_;dsimp only));refine Kd.R_lit k39 _ 39 ?hg (N:=5) ?hd (xs:=([(⟨(⟨#[98]⟩:ByteArray),(⟨#[97]⟩:ByteArray),(⟨0,0,0⟩:S37)⟩:S39),(⟨(⟨#[97]⟩:ByteArray),(⟨#[]⟩:ByteArray),(⟨0,0,0⟩:S37)⟩:S39)]:List (S39))) (inner:=[.string (⟨#[98]⟩:ByteArray), .string (⟨#[97]⟩:ByteArray), .int .i64 0, .int .i64 0, .int .i64 0, .string (⟨#[97]⟩:ByteArray), .string (⟨#[]⟩:ByteArray), .int .i64 0, .int .i64 0, .int .i64 0]) (ok:=fun _=>True) (okp:=fun _=>True) ?hr ?hp (fun _ hk=>hk) trivial (Below.refl _ _) (Nat.le_refl _) (by simp) ?_;(case hd=>rfl);(case hg=>rfl);(case hr=>first|(go_simp;done)|(go_simp;rfl));(case hp=>exact (Reps.c5 (show Kd.M k39 _ _ _ (⟨(⟨#[98]⟩:ByteArray),(⟨#[97]⟩:ByteArray),(⟨0,0,0⟩:S37)⟩:S39) [.string (⟨#[98]⟩:ByteArray), .string (⟨#[97]⟩:ByteArray), .int .i64 0, .int .i64 0, .int .i64 0] from (k39_mkM _ _ _ (⟨(⟨#[98]⟩:ByteArray),(⟨#[97]⟩:ByteArray),(⟨0,0,0⟩:S37)⟩:S39))) (Reps.c5 (show Kd.M k39 _ _ _ (⟨(⟨#[97]⟩:ByteArray),(⟨#[]⟩:ByteArray),(⟨0,0,0⟩:S37)⟩:S39) [.string (⟨#[97]⟩:ByteArray), .string (⟨#[]⟩:ByteArray), .int .i64 0, .int .i64 0, .int .i64 0] from (k39_mkM _ _ _ (⟨(⟨#[97]⟩:ByteArray),(⟨#[]⟩:ByteArray),(⟨0,0,0⟩:S37)⟩:S39))) (Reps.none _ _))));intro v2 w16 ho17 hb hg_ hnew_;clear hg_ hnew_;(first|rw [←Ny1.out] at ho17|(simp only [Int.reduceToNat] at ho17;rw [←Ny1.out] at ho17));have HO3:=am_ (Kd.R_lower ho17 (below_size (zl0_ HB)));replace HB:=am_ (below_step (zl0_ HB) hb);clear hb ho17;obtain ⟨Ao18,co18,eo18⟩:=Kd.R_slice HO3.out;subst eo18)|((with_reducible refine gate_callee (f:=30) rfl ?_);refine gl_ (some 7) Try.func30 #[.slice Ao18 y1.length co18] ?_;(with_reducible refine (want_Top.calls _ _ y1 t4 _ ?side1 ?side2 A1.out).mono ?_);(case side1=>exact zc_ (Kd.R_reads' HO3.out).2.2);(case side2=>exact (Kd.R_reads' HO3.out).2.1);rintro e w19 ⟨v5,rfl,ho0,hb⟩;refine ⟨_,rfl, ?_⟩;have HO6:=am_ (Kd.R_lower (Kd.R_new' ho0 (Kd.R_lt (zr_ HO3))) (below_size (zl0_ HB)));replace HO3:=am_ (Kd.R_elder' (zr_ HO3) (Kd.R_base ho0) hb);replace HB:=am_ (below_step (zl0_ HB) hb);(try clear hb);(try clear hb2);(try clear hk);(try clear hi);(try clear ho0))|((with_reducible refine gate_callee (f:=26) rfl ?_);refine gl_ (some 8) Try.func26 #[.slice none 0 0] ?_;(refine (want_Check.calls k _ _ ([]:List (S39)) t7 _ ?side1 ?side2 A2.out).mono ?_);(case side1=>exact Kd.C_nil _ _);(case side2=>exact Nat.le_refl _);rintro e w20 ⟨rfl,hb⟩;refine ⟨_,rfl, ?_⟩;replace HO3:=am_ (Kd.R_below (zr_ HO3) hb);replace HO6:=am_ (Kd.R_below (zr_ HO6) hb);replace HB:=am_ (below_step (zl0_ HB) hb);(try clear hb);(try clear hb2);(try clear hk);(try clear hi))|((with_reducible refine gate_callee (f:=25) rfl ?_);refine gl_ (some 9) Try.func25 #[.int .i64 t7] ?_;(with_reducible refine (law1_Num.calls t7 t8 _ A3.out).mono ?_);rintro e w' ⟨rfl,⟨nd,rfl⟩⟩;refine ⟨_,rfl, ?_⟩;obtain ⟨Ao21,co21,eo21⟩:=Kd.R_slice HO6.out;subst eo21;have p9:0≤(0:Int):=(by omega);have q9:0<(t4.length:Int):=of_decide_eq_true zq_;obtain ⟨ad9,e9,hx9_0,hx9_1,hx9_2,hx9_3,hx9_4⟩:=at_T39 (Kd.R_reads' HO6.out).2.2 0 p9 q9;cases e9;have qi9:(0<t4.length)=True:=eq_true (by omega);(try rw [show ((0:Int)).toNat=0 from rfl] at hx9_0);(try rw [show 0*5=0 from rfl] at hx9_0);(try rw [Addr.add_zero'] at hx9_0);(try rw [show ((0:Int)).toNat=0 from rfl] at hx9_1);(try rw [show 0*5=0 from rfl] at hx9_1);(try rw [Addr.add_zero'] at hx9_1);(try rw [show ((0:Int)).toNat=0 from rfl] at hx9_2);(try rw [show 0*5=0 from rfl] at hx9_2);(try rw [Addr.add_zero'] at hx9_2);(try rw [show ((0:Int)).toNat=0 from rfl] at hx9_3);(try rw [show 0*5=0 from rfl] at hx9_3);(try rw [Addr.add_zero'] at hx9_3);(try rw [show ((0:Int)).toNat=0 from rfl] at hx9_4);(try rw [show 0*5=0 from rfl] at hx9_4);(try rw [Addr.add_zero'] at hx9_4);replace p9:=eq_true p9;replace q9:=eq_true q9))
  go_ret
  exact ⟨by first|rfl|(simp [errW_none,errW_some]<;>rfl)|(simp [*,errW_none,errW_some]<;>rfl),zl0_ HB⟩
 rw [if_pos c7] at H
 have c7b0:(((rd_T39 t4 0).f0).toList==([97]:List UInt8))=true:=beq_iff_eq.mpr c7
 have c7b1:(((rd_T39 t4 0).f0).toList !=([97]:List UInt8))=false:=bne_eq_false_iff_eq.mpr c7
 clear c7
 replace H:=Option.bind_eq_some_iff.mp H
 obtain ⟨t10,A80,H⟩:=H
 try dsimp only at H
 have A8:=Aside0.mk A80
 clear A80
 obtain rfl:=Option.some.inj H
 go_enter Try.func23,Try.ntmps23
 go_wp2_with (first|((with_reducible refine gate_dst (N:=5) rfl ?_);(try (refine gate_guard (by rfl) ?_;dsimp only));refine Kd.R_lit k39 _ 39 ?hg (N:=5) ?hd (xs:=([(⟨(⟨#[98]⟩:ByteArray),(⟨#[97]⟩:ByteArray),(⟨0,0,0⟩:S37)⟩:S39),(⟨(⟨#[97]⟩:ByteArray),(⟨#[]⟩:ByteArray),(⟨0,0,0⟩:S37)⟩:S39)]:List (S39))) (inner:=[.string (⟨#[98]⟩:ByteArray), .string (⟨#[97]⟩:ByteArray), .int .i64 0, .int .i64 0, .int .i64 0, .string (⟨#[97]⟩:ByteArray), .string (⟨#[]⟩:ByteArray), .int .i64 0, .int .i64 0, .int .i64 0]) (ok:=fun _=>True) (okp:=fun _=>True) ?hr ?hp (fun _ hk=>hk) trivial (Below.refl _ _) (Nat.le_refl _) (by simp) ?_;(case hd=>rfl);(case hg=>rfl);(case hr=>first|(go_simp;done)|(go_simp;rfl));(case hp=>exact (Reps.c5 (show Kd.M k39 _ _ _ (⟨(⟨#[98]⟩:ByteArray),(⟨#[97]⟩:ByteArray),(⟨0,0,0⟩:S37)⟩:S39) [.string (⟨#[98]⟩:ByteArray), .string (⟨#[97]⟩:ByteArray), .int .i64 0, .int .i64 0, .int .i64 0] from (k39_mkM _ _ _ (⟨(⟨#[98]⟩:ByteArray),(⟨#[97]⟩:ByteArray),(⟨0,0,0⟩:S37)⟩:S39))) (Reps.c5 (show Kd.M k39 _ _ _ (⟨(⟨#[97]⟩:ByteArray),(⟨#[]⟩:ByteArray),(⟨0,0,0⟩:S37)⟩:S39) [.string (⟨#[97]⟩:ByteArray), .string (⟨#[]⟩:ByteArray), .int .i64 0, .int .i64 0, .int .i64 0] from (k39_mkM _ _ _ (⟨(⟨#[97]⟩:ByteArray),(⟨#[]⟩:ByteArray),(⟨0,0,0⟩:S37)⟩:S39))) (Reps.none _ _))));intro v2 w9 ho10 hb hg_ hnew_;clear hg_ hnew_;(first|rw [←Ny1.out] at ho10|(simp only [Int.reduceToNat] at ho10;rw [←Ny1.out] at ho10));have HO3:=am_ (Kd.R_lower ho10 (below_size (zl0_ HB)));replace HB:=am_ (below_step (zl0_ HB) hb);clear hb ho10;obtain ⟨Ao11,co11,eo11⟩:=Kd.R_slice HO3.out;subst eo11)|((with_reducible refine gate_callee (f:=30) rfl ?_);refine gl_ (some 7) Try.func30 #[.slice Ao11 y1.length co11] ?_;(with_reducible refine (want_Top.calls _ _ y1 t4 _ ?side1 ?side2 A1.out).mono ?_);(case side1=>exact zc_ (Kd.R_reads' HO3.out).2.2);(case side2=>exact (Kd.R_reads' HO3.out).2.1);rintro e w12 ⟨v5,rfl,ho0,hb⟩;refine ⟨_,rfl, ?_⟩;have HO6:=am_ (Kd.R_lower (Kd.R_new' ho0 (Kd.R_lt (zr_ HO3))) (below_size (zl0_ HB)));replace HO3:=am_ (Kd.R_elder' (zr_ HO3) (Kd.R_base ho0) hb);replace HB:=am_ (below_step (zl0_ HB) hb);(try clear hb);(try clear hb2);(try clear hk);(try clear hi);(try clear ho0))|((with_reducible refine gate_callee (f:=26) rfl ?_);refine gl_ (some 8) Try.func26 #[.slice none 0 0] ?_;(refine (want_Check.calls k _ _ ([]:List (S39)) t7 _ ?side1 ?side2 A2.out).mono ?_);(case side1=>exact Kd.C_nil _ _);(case side2=>exact Nat.le_refl _);rintro e w13 ⟨rfl,hb⟩;refine ⟨_,rfl, ?_⟩;replace HO3:=am_ (Kd.R_below (zr_ HO3) hb);replace HO6:=am_ (Kd.R_below (zr_ HO6) hb);replace HB:=am_ (below_step (zl0_ HB) hb);(try clear hb);(try clear hb2);(try clear hk);(try clear hi))|((with_reducible refine gate_callee (f:=25) rfl ?_);refine gl_ (some 9) Try.func25 #[.int .i64 t7] ?_;(with_reducible refine (law1_Num.calls t7 t8 _ A3.out).mono ?_);rintro e w' ⟨rfl,⟨nd,rfl⟩⟩;refine ⟨_,rfl, ?_⟩;obtain ⟨Ao14,co14,eo14⟩:=Kd.R_slice HO6.out;subst eo14;have p9:0≤(0:Int):=(by omega);have q9:0<(t4.length:Int):=of_decide_eq_true zq_;obtain ⟨ad9,e9,hx9_0,hx9_1,hx9_2,hx9_3,hx9_4⟩:=at_T39 (Kd.R_reads' HO6.out).2.2 0 p9 q9;cases e9;have qi9:(0<t4.length)=True:=eq_true (by omega);(try rw [show ((0:Int)).toNat=0 from rfl] at hx9_0);(try rw [show 0*5=0 from rfl] at hx9_0);(try rw [Addr.add_zero'] at hx9_0);(try rw [show ((0:Int)).toNat=0 from rfl] at hx9_1);(try rw [show 0*5=0 from rfl] at hx9_1);(try rw [Addr.add_zero'] at hx9_1);(try rw [show ((0:Int)).toNat=0 from rfl] at hx9_2);(try rw [show 0*5=0 from rfl] at hx9_2);(try rw [Addr.add_zero'] at hx9_2);(try rw [show ((0:Int)).toNat=0 from rfl] at hx9_3);(try rw [show 0*5=0 from rfl] at hx9_3);(try rw [Addr.add_zero'] at hx9_3);(try rw [show ((0:Int)).toNat=0 from rfl] at hx9_4);(try rw [show 0*5=0 from rfl] at hx9_4);(try rw [Addr.add_zero'] at hx9_4);replace p9:=eq_true p9;replace q9:=eq_true q9)|(go_at_call 27;(with_reducible refine (want_Depth.calls _ _ y1 (⟨#[98]⟩:ByteArray) t10 _ ?side1 ?side2 A8.out).mono ?_);(case side1=>exact zc_ (Kd.R_reads' HO3.out).2.2);(case side2=>exact (Kd.R_reads' HO3.out).2.1);rintro e w15 ⟨rfl,hb⟩;replace HO3:=am_ (Kd.R_below (zr_ HO3) hb);replace HO6:=am_ (Kd.R_below (zr_ HO6) hb);replace HB:=am_ (below_step (zl0_ HB) hb);(try clear hb);(try clear hb2);(try clear hk);(try clear hi)))
 go_ret
 exact ⟨by first|rfl|(simp [errW_none,errW_some]<;>rfl)|(simp [*,errW_none,errW_some]<;>rfl),zl0_ HB⟩
mutual
noncomputable def law11_WantCircle.l0:Nat→Bool→Bool→Int→List (S39)→Int→Option (Bool)
 |0,_,_,_,_,_=>none
 |k+1,x1,x2,x7,x8,x9=>if x9<x7 then ((r1_Digits.f k x9).bind fun t1=>(if 1+t1.size≤9223372036854775807 then ((r1_Digits.f k (wrap64 (x9+1))).bind fun t2=>(if 1+t2.size≤9223372036854775807 then (if x9=(wrap64 (x7 - 1)) then (law11_WantCircle.j1 k x1 x2 x7 x8 x9 ((⟨#[110]⟩:ByteArray)++t1) (⟨#[]⟩:ByteArray) x7 0 0) else (law11_WantCircle.j1 k x1 x2 x7 x8 x9 ((⟨#[110]⟩:ByteArray)++t1) ((⟨#[110]⟩:ByteArray)++t2) x7 0 0)) else (none))) else (none))) else ((want_Check.f k x8).bind fun t22=>((law1_Num.f t22).bind fun t23=>(if x2=true then (if t23=2 then ((law11_awake.f k).bind fun t24=>(some t24)) else (some false)) else (if x1=true then (if t23=10 then ((law11_awake.f k).bind fun t25=>(some t25)) else (some false)) else (law11_WantCircle.l1 k x7 x8 t23 0)))))
noncomputable def law11_WantCircle.j1:Nat→Bool→Bool→Int→List (S39)→Int→ByteArray→ByteArray→Int→Int→Int→Option (Bool)
 |0,_,_,_,_,_,_,_,_,_,_=>none
 |k+1,x1,x2,x7,x8,x9,x4000,x4001,x4002,x4003,x4004=>if x9=(wrap64 (x7 - 1)) then (law11_WantCircle.j2 k x1 x2 x7 x8 x9 x1 x4000 x4001 x4002 x4003 x4004) else (law11_WantCircle.j2 k x1 x2 x7 x8 x9 false x4000 x4001 x4002 x4003 x4004)
noncomputable def law11_WantCircle.j2:Nat→Bool→Bool→Int→List (S39)→Int→Bool→ByteArray→ByteArray→Int→Int→Int→Option (Bool)
 |0,_,_,_,_,_,_,_,_,_,_,_=>none
 |k+1,x1,x2,x7,x8,x9,x43,x4000,x4001,x4002,x4003,x4004=>if x43=true then (if x9=(wrap64 (x7 - 1)) then (if x2=true then (if x8.length<2513169434916 then (law11_WantCircle.l0 k x1 x2 x7 (x8++ [(⟨x4000,(⟨#[110,111,110,101]⟩:ByteArray),(⟨x4002,x4003,x4004⟩:S37)⟩:S39)]) (wrap64 (x9+1))) else (none)) else (if x8.length<2513169434916 then (law11_WantCircle.l0 k x1 x2 x7 (x8++ [(⟨x4000,(⟨#[110,48]⟩:ByteArray),(⟨x4002,x4003,x4004⟩:S37)⟩:S39)]) (wrap64 (x9+1))) else (none))) else (if x8.length<2513169434916 then (law11_WantCircle.l0 k x1 x2 x7 (x8++ [(⟨x4000,(⟨#[110,48]⟩:ByteArray),(⟨x4002,x4003,x4004⟩:S37)⟩:S39)]) (wrap64 (x9+1))) else (none))) else (if x9=(wrap64 (x7 - 1)) then (if x2=true then (if x8.length<2513169434916 then (law11_WantCircle.l0 k x1 x2 x7 (x8++ [(⟨x4000,(⟨#[110,111,110,101]⟩:ByteArray),(⟨x4002,x4003,x4004⟩:S37)⟩:S39)]) (wrap64 (x9+1))) else (none)) else (if x8.length<2513169434916 then (law11_WantCircle.l0 k x1 x2 x7 (x8++ [(⟨x4000,x4001,(⟨x4002,x4003,x4004⟩:S37)⟩:S39)]) (wrap64 (x9+1))) else (none))) else (if x8.length<2513169434916 then (law11_WantCircle.l0 k x1 x2 x7 (x8++ [(⟨x4000,x4001,(⟨x4002,x4003,x4004⟩:S37)⟩:S39)]) (wrap64 (x9+1))) else (none)))
noncomputable def law11_WantCircle.l1:Nat→Int→List (S39)→Int→Int→Option (Bool)
 |0,_,_,_,_=>none
 |k+1,x7,x8,x11,x12=>if x12<x7 then (if 0≤x12 then (if x12<(x8.length:Int) then ((want_Depth.f x8 ((rd_T39 x8 x12).f0)).bind fun t27=>(if t27=(wrap64 (x7 - x12)) then (law11_WantCircle.l1 k x7 x8 x11 (wrap64 (x12+1))) else (some false))) else (none)) else (none)) else (if x11=0 then ((want_Depth.f x8 (⟨#[110,111,110,101]⟩:ByteArray)).bind fun t28=>(if t28=0 then ((law11_awake.f k).bind fun t29=>(some t29)) else (some false))) else (some false))
end
noncomputable def law11_WantCircle.f (k:Nat) (a0:Int) (a1:Bool) (a2:Bool):Option (Bool):=law11_WantCircle.l0 k a1 a2 (wrap64 (2+(Int.tmod (wrap64 (a0)) 20))) ([]:List (S39)) 0
theorem law11_WantCircle.mono_l: ∀k,(∀y0 y1 y2 y3 y4,LeO (law11_WantCircle.l0 k y0 y1 y2 y3 y4) (law11_WantCircle.l0 (k+1) y0 y1 y2 y3 y4))∧(∀y0 y1 y2 y3 y4 y5 y6 y7 y8 y9,LeO (law11_WantCircle.j1 k y0 y1 y2 y3 y4 y5 y6 y7 y8 y9) (law11_WantCircle.j1 (k+1) y0 y1 y2 y3 y4 y5 y6 y7 y8 y9))∧(∀y0 y1 y2 y3 y4 y5 y6 y7 y8 y9 y10,LeO (law11_WantCircle.j2 k y0 y1 y2 y3 y4 y5 y6 y7 y8 y9 y10) (law11_WantCircle.j2 (k+1) y0 y1 y2 y3 y4 y5 y6 y7 y8 y9 y10))∧(∀y0 y1 y2 y3,LeO (law11_WantCircle.l1 k y0 y1 y2 y3) (law11_WantCircle.l1 (k+1) y0 y1 y2 y3))
 |0=>⟨fun _ _ _ _ _ r h=>by simp [law11_WantCircle.l0] at h,fun _ _ _ _ _ _ _ _ _ _ r h=>by simp [law11_WantCircle.j1] at h,fun _ _ _ _ _ _ _ _ _ _ _ r h=>by simp [law11_WantCircle.j2] at h,fun _ _ _ _ r h=>by simp [law11_WantCircle.l1] at h⟩
 |k+1=>by
  obtain ⟨ih0,ih1,ih2,ih3⟩:=law11_WantCircle.mono_l k
  refine ⟨?_, ?_, ?_, ?_⟩
  ·intro y0 y1 y2 y3 y4
   unfold law11_WantCircle.l0
   repeat' first
   |(with_reducible exact ih0 _ _ _ _ _)
   |(with_reducible exact ih1 _ _ _ _ _ _ _ _ _ _)
   |(with_reducible exact ih2 _ _ _ _ _ _ _ _ _ _ _)
   |(with_reducible exact ih3 _ _ _ _)
   |(with_reducible exact law11_awake.mono _)
   |(with_reducible exact r1_Digits.mono _ _)
   |(with_reducible exact want_Check.mono _ _)
   |(with_reducible exact LeO.refl _)
   |(with_reducible exact LeO.none _)
   |(with_reducible refine LeO.ite ?_ ?_)
   |(with_reducible refine LeO.bind ?_ (fun _=> ?_))
   |exact ih0 _ _ _ _ _
   |exact ih1 _ _ _ _ _ _ _ _ _ _
   |exact ih2 _ _ _ _ _ _ _ _ _ _ _
   |exact ih3 _ _ _ _
   |exact law11_awake.mono _
   |exact r1_Digits.mono _ _
   |exact want_Check.mono _ _
   |exact LeO.none _
   |refine LeO.ite ?_ ?_
   |refine LeO.bind ?_ (fun _=> ?_)
  ·intro y0 y1 y2 y3 y4 y5 y6 y7 y8 y9
   unfold law11_WantCircle.j1
   repeat' first
   |(with_reducible exact ih0 _ _ _ _ _)
   |(with_reducible exact ih1 _ _ _ _ _ _ _ _ _ _)
   |(with_reducible exact ih2 _ _ _ _ _ _ _ _ _ _ _)
   |(with_reducible exact ih3 _ _ _ _)
   |(with_reducible exact law11_awake.mono _)
   |(with_reducible exact r1_Digits.mono _ _)
   |(with_reducible exact want_Check.mono _ _)
   |(with_reducible exact LeO.refl _)
   |(with_reducible exact LeO.none _)
   |(with_reducible refine LeO.ite ?_ ?_)
   |(with_reducible refine LeO.bind ?_ (fun _=> ?_))
   |exact ih0 _ _ _ _ _
   |exact ih1 _ _ _ _ _ _ _ _ _ _
   |exact ih2 _ _ _ _ _ _ _ _ _ _ _
   |exact ih3 _ _ _ _
   |exact law11_awake.mono _
   |exact r1_Digits.mono _ _
   |exact want_Check.mono _ _
   |exact LeO.none _
   |refine LeO.ite ?_ ?_
   |refine LeO.bind ?_ (fun _=> ?_)
  ·intro y0 y1 y2 y3 y4 y5 y6 y7 y8 y9 y10
   unfold law11_WantCircle.j2
   repeat' first
   |(with_reducible exact ih0 _ _ _ _ _)
   |(with_reducible exact ih1 _ _ _ _ _ _ _ _ _ _)
   |(with_reducible exact ih2 _ _ _ _ _ _ _ _ _ _ _)
   |(with_reducible exact ih3 _ _ _ _)
   |(with_reducible exact law11_awake.mono _)
   |(with_reducible exact r1_Digits.mono _ _)
   |(with_reducible exact want_Check.mono _ _)
   |(with_reducible exact LeO.refl _)
   |(with_reducible exact LeO.none _)
   |(with_reducible refine LeO.ite ?_ ?_)
   |(with_reducible refine LeO.bind ?_ (fun _=> ?_))
   |exact ih0 _ _ _ _ _
   |exact ih1 _ _ _ _ _ _ _ _ _ _
   |exact ih2 _ _ _ _ _ _ _ _ _ _ _
   |exact ih3 _ _ _ _
   |exact law11_awake.mono _
   |exact r1_Digits.mono _ _
   |exact want_Check.mono _ _
   |exact LeO.none _
   |refine LeO.ite ?_ ?_
   |refine LeO.bind ?_ (fun _=> ?_)
  intro y0 y1 y2 y3
  unfold law11_WantCircle.l1
  repeat' first
  |(with_reducible exact ih0 _ _ _ _ _)
  |(with_reducible exact ih1 _ _ _ _ _ _ _ _ _ _)
  |(with_reducible exact ih2 _ _ _ _ _ _ _ _ _ _ _)
  |(with_reducible exact ih3 _ _ _ _)
  |(with_reducible exact law11_awake.mono _)
  |(with_reducible exact r1_Digits.mono _ _)
  |(with_reducible exact want_Check.mono _ _)
  |(with_reducible exact LeO.refl _)
  |(with_reducible exact LeO.none _)
  |(with_reducible refine LeO.ite ?_ ?_)
  |(with_reducible refine LeO.bind ?_ (fun _=> ?_))
  |exact ih0 _ _ _ _ _
  |exact ih1 _ _ _ _ _ _ _ _ _ _
  |exact ih2 _ _ _ _ _ _ _ _ _ _ _
  |exact ih3 _ _ _ _
  |exact law11_awake.mono _
  |exact r1_Digits.mono _ _
  |exact want_Check.mono _ _
  |exact LeO.none _
  |refine LeO.ite ?_ ?_
  |refine LeO.bind ?_ (fun _=> ?_)
theorem law11_WantCircle.mono: ∀a0 a1 a2 k,LeO (law11_WantCircle.f k a0 a1 a2) (law11_WantCircle.f (k+1) a0 a1 a2):=by
 intro a0 a1 a2 k
 obtain ⟨ih0,ih1,ih2,ih3⟩:=law11_WantCircle.mono_l k
 unfold law11_WantCircle.f
 repeat' first
  |(with_reducible exact ih0 _ _ _ _ _)
  |(with_reducible exact ih1 _ _ _ _ _ _ _ _ _ _)
  |(with_reducible exact ih2 _ _ _ _ _ _ _ _ _ _ _)
  |(with_reducible exact ih3 _ _ _ _)
  |(with_reducible exact law11_awake.mono _)
  |(with_reducible exact r1_Digits.mono _ _)
  |(with_reducible exact want_Check.mono _ _)
  |(with_reducible exact LeO.refl _)
  |(with_reducible exact LeO.none _)
  |(with_reducible refine LeO.ite ?_ ?_)
  |(with_reducible refine LeO.bind ?_ (fun _=> ?_))
  |exact ih0 _ _ _ _ _
  |exact ih1 _ _ _ _ _ _ _ _ _ _
  |exact ih2 _ _ _ _ _ _ _ _ _ _ _
  |exact ih3 _ _ _ _
  |exact law11_awake.mono _
  |exact r1_Digits.mono _ _
  |exact want_Check.mono _ _
  |exact LeO.none _
  |refine LeO.ite ?_ ?_
  |refine LeO.bind ?_ (fun _=> ?_)
set_option maxHeartbeats 8000000 in
set_option maxRecDepth 100000 in
theorem law11_WantCircle.calls (k:Nat) (a0:Int) (a1:Bool) (a2:Bool) (r:Bool) (w:World) (h:law11_WantCircle.f k a0 a1 a2=some r):
  Calls Try.prog 6 #[.int .u8 a0, .bool a1, .bool a2] w fun e w'=>e= .returned (.bool r)∧Below w.heap.size w w':=by
 have hu37:=Try.underlying37
 have hu39:=Try.underlying39
 have HB:=am_ (Below.refl w.heap.size w)
 have H:(law11_WantCircle.l0 k a1 a2 (wrap64 (2+(Int.tmod (wrap64 (a0)) 20))) ([]:List (S39)) 0)=some r:=h
 clear h
 have H':=Aside0.mk H
 clear H
 go_enter Try.func6,Try.ntmps6
 go_wp2
 go_loopg [8,9] k (fun kq v8 v9 w'=> ∃(x8_1:List (S39)) (x9_1:Int),v9= .int .i64 x9_1∧Aside0 (law11_WantCircle.l0 kq a1 a2 (wrap64 (2+(Int.tmod (wrap64 (a0)) 20))) x8_1 x9_1=some r)∧Aside0 (kq≤k)∧Aside0 (Kd.R k39 39 w' w.heap.size (fun _=>True) v8 x8_1)∧Aside0 (Below w.heap.size w w'))
 case atStart=>exact ⟨(([]:List (S39))),(0),(by first|rfl|(simp;done)|(simp [*];done)),H',⟨Nat.le_refl _⟩,⟨by first|exact Kd.R_nil _ _ _ _ _|exact Kd.N_nil _ _ _ _ _|exact Kd.V_nil _ _ _ _ _|exact Kd.Q_nil _ _ _ _ _|exact Kd.S_nil _ _ _ _ _⟩,⟨zl0_ HB⟩⟩
 case round=>
  clear H'
  try clear p2
  obtain ⟨x8_1,x9_1,rfl,HA,HK1,HO_8,HB⟩:=hrel
  cases gk with
  |zero=>exact absurd HA.out (by simp [law11_WantCircle.l0])
  |succ k1=>
   have H:=HA.out
   clear HA
   simp only [law11_WantCircle.l0] at H
   by_cases c4:x9_1<(wrap64 (2+(Int.tmod (wrap64 (a0)) 20)))
   rotate_left
   ·rw [if_neg c4] at H
    have c4b0:decide (x9_1<(wrap64 (2+(Int.tmod (wrap64 (a0)) 20))))=false:=decide_eq_false c4
    clear c4
    replace H:=Option.bind_eq_some_iff.mp H
    obtain ⟨t22,A410,H⟩:=H
    try dsimp only at H
    have A41:=Aside0.mk A410
    clear A410
    replace H:=Option.bind_eq_some_iff.mp H
    obtain ⟨t23,A420,H⟩:=H
    try dsimp only at H
    have A42:=Aside0.mk A420
    clear A420
    by_cases c43:a2=true
    ·subst c43
     have H1:(if t23=2 then ((law11_awake.f k1).bind fun t24=>(some t24)) else (some false))=some r:=by rw [if_pos rfl] at H;exact H
     clear H
     have H:=H1
     clear H1
     by_cases c44:t23=2
     rotate_left
     ·rw [if_neg c44] at H
      have c44b0:(t23==2)=false:=beq_eq_false_iff_ne.mpr c44
      have c44b1:(t23 !=2)=true:=bne_iff_ne.mpr c44
      obtain rfl:=Option.some.inj H
      obtain ⟨Ao49,co49,eo49⟩:=Kd.R_slice HO_8.out
      subst eo49
      go_wp2_with (first|((with_reducible refine gate_callee (f:=26) rfl ?_);refine gl_ (some 58) Try.func26 #[.slice Ao49 x8_1.length co49] ?_;(with_reducible refine (want_Check.calls k1 _ _ x8_1 t22 _ ?side1 ?side2 A41.out).mono ?_);(case side1=>exact zc_ (Kd.R_reads' HO_8.out).2.2);(case side2=>exact (Kd.R_reads' HO_8.out).2.1);rintro e w50 ⟨rfl,hb⟩;refine ⟨_,rfl, ?_⟩;replace HO_8:=am_ (Kd.R_below (zr_ HO_8) hb);replace HB:=am_ (below_step (zl0_ HB) hb);(try clear hb);(try clear hb2);(try clear hk);(try clear hi))|((with_reducible refine gate_callee (f:=25) rfl ?_);refine gl_ (some 59) Try.func25 #[.int .i64 t22] ?_;(with_reducible refine (law1_Num.calls t22 t23 _ A42.out).mono ?_);rintro e w' ⟨rfl,⟨nd,rfl⟩⟩;refine ⟨_,rfl, ?_⟩))
      go_ret
      exact ⟨by first|rfl|(simp [errW_none,errW_some]<;>rfl)|(simp [*,errW_none,errW_some]<;>rfl),zl0_ HB⟩
     rw [if_pos c44] at H
     have c44b0:(t23==2)=true:=beq_iff_eq.mpr c44
     have c44b1:(t23 !=2)=false:=bne_eq_false_iff_eq.mpr c44
     clear c44
     replace H:=Option.bind_eq_some_iff.mp H
     obtain ⟨t24,A450,H⟩:=H
     try dsimp only at H
     have A45:=Aside0.mk A450
     clear A450
     obtain rfl:=Option.some.inj H
     obtain ⟨Ao46,co46,eo46⟩:=Kd.R_slice HO_8.out
     subst eo46
     go_wp2_with (first|((with_reducible refine gate_callee (f:=26) rfl ?_);refine gl_ (some 58) Try.func26 #[.slice Ao46 x8_1.length co46] ?_;(with_reducible refine (want_Check.calls k1 _ _ x8_1 t22 _ ?side1 ?side2 A41.out).mono ?_);(case side1=>exact zc_ (Kd.R_reads' HO_8.out).2.2);(case side2=>exact (Kd.R_reads' HO_8.out).2.1);rintro e w47 ⟨rfl,hb⟩;refine ⟨_,rfl, ?_⟩;replace HO_8:=am_ (Kd.R_below (zr_ HO_8) hb);replace HB:=am_ (below_step (zl0_ HB) hb);(try clear hb);(try clear hb2);(try clear hk);(try clear hi))|((with_reducible refine gate_callee (f:=25) rfl ?_);refine gl_ (some 59) Try.func25 #[.int .i64 t22] ?_;(with_reducible refine (law1_Num.calls t22 t23 _ A42.out).mono ?_);rintro e w' ⟨rfl,⟨nd,rfl⟩⟩;refine ⟨_,rfl, ?_⟩)|(go_at_call 23;(with_reducible refine (law11_awake.calls k1 t24 _ A45.out).mono ?_);rintro e w48 ⟨rfl,hb⟩;replace HO_8:=am_ (Kd.R_below (zr_ HO_8) hb);replace HB:=am_ (below_step (zl0_ HB) hb);(try clear hb);(try clear hb2);(try clear hk);(try clear hi)))
     go_ret
     exact ⟨by first|rfl|(simp [errW_none,errW_some]<;>rfl)|(simp [*,errW_none,errW_some]<;>rfl),zl0_ HB⟩
    replace c43:=Bool.eq_false_iff.mpr c43
    subst c43
    have H1:(if a1=true then (if t23=10 then ((law11_awake.f k1).bind fun t25=>(some t25)) else (some false)) else (law11_WantCircle.l1 k1 (wrap64 (2+(Int.tmod (wrap64 (a0)) 20))) x8_1 t23 0))=some r:=by rw [if_neg (show¬(false=true) by decide)] at H;exact H
    clear H
    have H:=H1
    clear H1
    by_cases c51:a1=true
    ·subst c51
     have H1:(if t23=10 then ((law11_awake.f k1).bind fun t25=>(some t25)) else (some false))=some r:=by rw [if_pos rfl] at H;exact H
     clear H
     have H:=H1
     clear H1
     by_cases c52:t23=10
     rotate_left
     ·rw [if_neg c52] at H
      have c52b0:(t23==10)=false:=beq_eq_false_iff_ne.mpr c52
      have c52b1:(t23 !=10)=true:=bne_iff_ne.mpr c52
      obtain rfl:=Option.some.inj H
      obtain ⟨Ao57,co57,eo57⟩:=Kd.R_slice HO_8.out
      subst eo57
      go_wp2_with (first|((with_reducible refine gate_callee (f:=26) rfl ?_);refine gl_ (some 58) Try.func26 #[.slice Ao57 x8_1.length co57] ?_;(with_reducible refine (want_Check.calls k1 _ _ x8_1 t22 _ ?side1 ?side2 A41.out).mono ?_);(case side1=>exact zc_ (Kd.R_reads' HO_8.out).2.2);(case side2=>exact (Kd.R_reads' HO_8.out).2.1);rintro e w58 ⟨rfl,hb⟩;refine ⟨_,rfl, ?_⟩;replace HO_8:=am_ (Kd.R_below (zr_ HO_8) hb);replace HB:=am_ (below_step (zl0_ HB) hb);(try clear hb);(try clear hb2);(try clear hk);(try clear hi))|((with_reducible refine gate_callee (f:=25) rfl ?_);refine gl_ (some 59) Try.func25 #[.int .i64 t22] ?_;(with_reducible refine (law1_Num.calls t22 t23 _ A42.out).mono ?_);rintro e w' ⟨rfl,⟨nd,rfl⟩⟩;refine ⟨_,rfl, ?_⟩))
      go_ret
      exact ⟨by first|rfl|(simp [errW_none,errW_some]<;>rfl)|(simp [*,errW_none,errW_some]<;>rfl),zl0_ HB⟩
     rw [if_pos c52] at H
     have c52b0:(t23==10)=true:=beq_iff_eq.mpr c52
     have c52b1:(t23 !=10)=false:=bne_eq_false_iff_eq.mpr c52
     clear c52
     replace H:=Option.bind_eq_some_iff.mp H
     obtain ⟨t25,A530,H⟩:=H
     try dsimp only at H
     have A53:=Aside0.mk A530
     clear A530
     obtain rfl:=Option.some.inj H
     obtain ⟨Ao54,co54,eo54⟩:=Kd.R_slice HO_8.out
     subst eo54
     go_wp2_with (first|((with_reducible refine gate_callee (f:=26) rfl ?_);refine gl_ (some 58) Try.func26 #[.slice Ao54 x8_1.length co54] ?_;(with_reducible refine (want_Check.calls k1 _ _ x8_1 t22 _ ?side1 ?side2 A41.out).mono ?_);(case side1=>exact zc_ (Kd.R_reads' HO_8.out).2.2);(case side2=>exact (Kd.R_reads' HO_8.out).2.1);rintro e w55 ⟨rfl,hb⟩;refine ⟨_,rfl, ?_⟩;replace HO_8:=am_ (Kd.R_below (zr_ HO_8) hb);replace HB:=am_ (below_step (zl0_ HB) hb);(try clear hb);(try clear hb2);(try clear hk);(try clear hi))|((with_reducible refine gate_callee (f:=25) rfl ?_);refine gl_ (some 59) Try.func25 #[.int .i64 t22] ?_;(with_reducible refine (law1_Num.calls t22 t23 _ A42.out).mono ?_);rintro e w' ⟨rfl,⟨nd,rfl⟩⟩;refine ⟨_,rfl, ?_⟩)|(go_at_call 23;(with_reducible refine (law11_awake.calls k1 t25 _ A53.out).mono ?_);rintro e w56 ⟨rfl,hb⟩;replace HO_8:=am_ (Kd.R_below (zr_ HO_8) hb);replace HB:=am_ (below_step (zl0_ HB) hb);(try clear hb);(try clear hb2);(try clear hk);(try clear hi)))
     go_ret
     exact ⟨by first|rfl|(simp [errW_none,errW_some]<;>rfl)|(simp [*,errW_none,errW_some]<;>rfl),zl0_ HB⟩
    replace c51:=Bool.eq_false_iff.mpr c51
    subst c51
    have H1:(law11_WantCircle.l1 k1 (wrap64 (2+(Int.tmod (wrap64 (a0)) 20))) x8_1 t23 0)=some r:=by rw [if_neg (show¬(false=true) by decide)] at H;exact H
    clear H
    have H:=H1
    clear H1
    have H':=Aside0.mk H
    clear H
    obtain ⟨Ao59,co59,eo59⟩:=Kd.R_slice HO_8.out
    subst eo59
    go_wp2_with (first|((with_reducible refine gate_callee (f:=26) rfl ?_);refine gl_ (some 58) Try.func26 #[.slice Ao59 x8_1.length co59] ?_;(with_reducible refine (want_Check.calls k1 _ _ x8_1 t22 _ ?side1 ?side2 A41.out).mono ?_);(case side1=>exact zc_ (Kd.R_reads' HO_8.out).2.2);(case side2=>exact (Kd.R_reads' HO_8.out).2.1);rintro e w60 ⟨rfl,hb⟩;refine ⟨_,rfl, ?_⟩;replace HO_8:=am_ (Kd.R_below (zr_ HO_8) hb);replace HB:=am_ (below_step (zl0_ HB) hb);(try clear hb);(try clear hb2);(try clear hk);(try clear hi))|((with_reducible refine gate_callee (f:=25) rfl ?_);refine gl_ (some 59) Try.func25 #[.int .i64 t22] ?_;(with_reducible refine (law1_Num.calls t22 t23 _ A42.out).mono ?_);rintro e w' ⟨rfl,⟨nd,rfl⟩⟩;refine ⟨_,rfl, ?_⟩))
    go_loopg [12] k1 (fun kq v12 w'=> ∃(x12_2:Int),v12= .int .i64 x12_2∧Aside0 (law11_WantCircle.l1 kq (wrap64 (2+(Int.tmod (wrap64 (a0)) 20))) x8_1 t23 x12_2=some r)∧Aside0 (kq≤k1)∧Aside0 (Kd.R k39 39 w' w.heap.size (fun _=>True) (.slice Ao59 x8_1.length co59) x8_1)∧Aside0 (Below w.heap.size w w'))
    case atStart=>exact ⟨(0),(by first|rfl|(simp;done)|(simp [*];done)),H',⟨Nat.le_refl _⟩,⟨by (with_reducible repeat (first|apply Kd.R_alloc|apply Kd.R_drewN|apply Kd.R_drew));exact HO_8.out⟩,⟨zl0_ HB⟩⟩
    case round=>
     clear H'
     try clear c1
     try clear c2
     try clear p2
     try clear c3
     try clear c4
     try clear c4b0
     try clear c5
     try clear c6
     try clear c6b0
     try clear c6b1
     try clear c6b2
     try clear p6
     try clear c8
     try clear c8b0
     try clear c8b1
     try clear c8b2
     try clear c14
     try clear c14b0
     try clear c14b1
     try clear c17
     try clear c17b0
     try clear c17b1
     try clear c18
     try clear c19
     try clear c19b0
     try clear c19b1
     try clear c20
     try clear c21
     try clear c24
     try clear c25
     try clear c26
     try clear c27
     try clear c30
     try clear c30b0
     try clear c30b1
     try clear c31
     try clear c32
     try clear c33
     try clear c35
     try clear c38
     try clear c43
     try clear c44
     try clear c44b0
     try clear c44b1
     try clear c51
     try clear c52
     try clear c52b0
     try clear c52b1
     try clear hcz13_0
     try clear hcz13_1
     try clear hcz13_2
     try clear hcz13_3
     try clear hcz13_4
     try clear hcz15_0
     try clear hcz15_1
     try clear hcz15_2
     try clear hcz15_3
     try clear hcz15_4
     try clear hcz22_0
     try clear hcz22_1
     try clear hcz22_2
     try clear hcz22_3
     try clear hcz22_4
     try clear hcz25_0
     try clear hcz25_1
     try clear hcz25_2
     try clear hcz25_3
     try clear hcz25_4
     try clear hcz28_0
     try clear hcz28_1
     try clear hcz28_2
     try clear hcz28_3
     try clear hcz28_4
     try clear hcz33_0
     try clear hcz33_1
     try clear hcz33_2
     try clear hcz33_3
     try clear hcz33_4
     try clear hcz36_0
     try clear hcz36_1
     try clear hcz36_2
     try clear hcz36_3
     try clear hcz36_4
     try clear hcz39_0
     try clear hcz39_1
     try clear hcz39_2
     try clear hcz39_3
     try clear hcz39_4
     try clear hfz13_0
     try clear hfz13_1
     try clear hfz13_2
     try clear hfz13_3
     try clear hfz13_4
     try clear hfz15_0
     try clear hfz15_1
     try clear hfz15_2
     try clear hfz15_3
     try clear hfz15_4
     try clear hfz22_0
     try clear hfz22_1
     try clear hfz22_2
     try clear hfz22_3
     try clear hfz22_4
     try clear hfz25_0
     try clear hfz25_1
     try clear hfz25_2
     try clear hfz25_3
     try clear hfz25_4
     try clear hfz28_0
     try clear hfz28_1
     try clear hfz28_2
     try clear hfz28_3
     try clear hfz28_4
     try clear hfz33_0
     try clear hfz33_1
     try clear hfz33_2
     try clear hfz33_3
     try clear hfz33_4
     try clear hfz36_0
     try clear hfz36_1
     try clear hfz36_2
     try clear hfz36_3
     try clear hfz36_4
     try clear hfz39_0
     try clear hfz39_1
     try clear hfz39_2
     try clear hfz39_3
     try clear hfz39_4
     try clear p2
     try clear p6
     obtain ⟨x12_2,rfl,HA,HK2,HO_8,HB⟩:=hrel
     cases gk with
     |zero=>exact absurd HA.out (by simp [law11_WantCircle.l1])
     |succ k2=>
      have H:=HA.out
      clear HA
      simp only [law11_WantCircle.l1] at H
      by_cases c61:x12_2<(wrap64 (2+(Int.tmod (wrap64 (a0)) 20)))
      rotate_left
      ·rw [if_neg c61] at H
       have c61b0:decide (x12_2<(wrap64 (2+(Int.tmod (wrap64 (a0)) 20))))=false:=decide_eq_false c61
       clear c61
       by_cases c68:t23=0
       rotate_left
       ·rw [if_neg c68] at H
        have c68b0:(t23==0)=false:=beq_eq_false_iff_ne.mpr c68
        have c68b1:(t23 !=0)=true:=bne_iff_ne.mpr c68
        obtain rfl:=Option.some.inj H
        go_wp2
        go_ret
        exact ⟨by first|rfl|(simp [errW_none,errW_some]<;>rfl)|(simp [*,errW_none,errW_some]<;>rfl),zl0_ HB⟩

       rw [if_pos c68] at H
       have c68b0:(t23==0)=true:=beq_iff_eq.mpr c68
       have c68b1:(t23 !=0)=false:=bne_eq_false_iff_eq.mpr c68
       clear c68
       replace H:=Option.bind_eq_some_iff.mp H
       obtain ⟨t28,A690,H⟩:=H
       try dsimp only at H
       have A69:=Aside0.mk A690
       clear A690
       by_cases c70:t28=0
       rotate_left
       ·rw [if_neg c70] at H
        have c70b0:(t28==0)=false:=beq_eq_false_iff_ne.mpr c70
        have c70b1:(t28 !=0)=true:=bne_iff_ne.mpr c70
        obtain rfl:=Option.some.inj H
        go_wp2_with (first|(go_at_call 27;(with_reducible refine (want_Depth.calls _ _ x8_1 (⟨#[110,111,110,101]⟩:ByteArray) t28 _ ?side1 ?side2 A69.out).mono ?_);(case side1=>exact zc_ (Kd.R_reads' HO_8.out).2.2);(case side2=>exact (Kd.R_reads' HO_8.out).2.1);rintro e w74 ⟨rfl,hb⟩;replace HO_8:=am_ (Kd.R_below (zr_ HO_8) hb);replace HB:=am_ (below_step (zl0_ HB) hb);(try clear hb);(try clear hb2);(try clear hk);(try clear hi)))
        go_ret
        exact ⟨by first|rfl|(simp [errW_none,errW_some]<;>rfl)|(simp [*,errW_none,errW_some]<;>rfl),zl0_ HB⟩
       rw [if_pos c70] at H
       have c70b0:(t28==0)=true:=beq_iff_eq.mpr c70
       have c70b1:(t28 !=0)=false:=bne_eq_false_iff_eq.mpr c70
       clear c70
       replace H:=Option.bind_eq_some_iff.mp H
       obtain ⟨t29,A710,H⟩:=H
       try dsimp only at H
       have A71:=Aside0.mk A710
       clear A710
       obtain rfl:=Option.some.inj H
       go_wp2_with (first|(go_at_call 27;(with_reducible refine (want_Depth.calls _ _ x8_1 (⟨#[110,111,110,101]⟩:ByteArray) t28 _ ?side1 ?side2 A69.out).mono ?_);(case side1=>exact zc_ (Kd.R_reads' HO_8.out).2.2);(case side2=>exact (Kd.R_reads' HO_8.out).2.1);rintro e w72 ⟨rfl,hb⟩;replace HO_8:=am_ (Kd.R_below (zr_ HO_8) hb);replace HB:=am_ (below_step (zl0_ HB) hb);(try clear hb);(try clear hb2);(try clear hk);(try clear hi))|(go_at_call 23;(with_reducible refine (law11_awake.calls k2 t29 _ A71.out).mono ?_);rintro e w73 ⟨rfl,hb⟩;replace HO_8:=am_ (Kd.R_below (zr_ HO_8) hb);replace HB:=am_ (below_step (zl0_ HB) hb);(try clear hb);(try clear hb2);(try clear hk);(try clear hi)))
       go_ret
       exact ⟨by first|rfl|(simp [errW_none,errW_some]<;>rfl)|(simp [*,errW_none,errW_some]<;>rfl),zl0_ HB⟩
      rw [if_pos c61] at H
      have c61b0:decide (x12_2<(wrap64 (2+(Int.tmod (wrap64 (a0)) 20))))=true:=decide_eq_true c61
      clear c61
      by_cases c62:0≤x12_2
      rotate_left
      ·rw [if_neg c62] at H
       exact absurd H (by simp)
      rw [if_pos c62] at H
      have c62b0:decide (0≤x12_2)=true:=decide_eq_true c62
      clear c62
      by_cases c63:x12_2<(x8_1.length:Int)
      rotate_left
      ·rw [if_neg c63] at H
       exact absurd H (by simp)
      rw [if_pos c63] at H
      have c63b0:decide (x12_2<(x8_1.length:Int))=true:=decide_eq_true c63
      clear c63
      replace H:=Option.bind_eq_some_iff.mp H
      obtain ⟨t27,A640,H⟩:=H
      try dsimp only at H
      have A64:=Aside0.mk A640
      clear A640
      by_cases c65:t27=(wrap64 ((wrap64 (2+(Int.tmod (wrap64 (a0)) 20))) - x12_2))
      rotate_left
      ·rw [if_neg c65] at H
       have c65b0:(t27==(wrap64 ((wrap64 (2+(Int.tmod (wrap64 (a0)) 20))) - x12_2)))=false:=beq_eq_false_iff_ne.mpr c65
       have c65b1:(t27 !=(wrap64 ((wrap64 (2+(Int.tmod (wrap64 (a0)) 20))) - x12_2)))=true:=bne_iff_ne.mpr c65
       obtain rfl:=Option.some.inj H
       have p26:0≤(x12_2:Int):=of_decide_eq_true zq_
       have q26:x12_2<(x8_1.length:Int):=of_decide_eq_true zq_
       obtain ⟨ad26,e26,hx26_0,hx26_1,hx26_2,hx26_3,hx26_4⟩:=at_T39 (Kd.R_reads' HO_8.out).2.2 x12_2 p26 q26
       cases e26
       replace p26:=eq_true p26
       replace q26:=eq_true q26
       go_wp2_with (first|((with_reducible refine gate_callee (f:=27) rfl ?_);refine gl_ (some 85) Try.func27 #[.slice (some ad26) x8_1.length co59, .string ((rd_T39 x8_1 x12_2).f0)] ?_;(with_reducible refine (want_Depth.calls _ _ x8_1 ((rd_T39 x8_1 x12_2).f0) t27 _ ?side1 ?side2 A64.out).mono ?_);(case side1=>exact zc_ (Kd.R_reads' HO_8.out).2.2);(case side2=>exact (Kd.R_reads' HO_8.out).2.1);rintro e w67 ⟨rfl,hb⟩;refine ⟨_,rfl, ?_⟩;replace HO_8:=am_ (Kd.R_below (zr_ HO_8) hb);replace HB:=am_ (below_step (zl0_ HB) hb);(try clear hb);(try clear hb2);(try clear hk);(try clear hi)))
       go_ret
       exact ⟨by first|rfl|(simp [errW_none,errW_some]<;>rfl)|(simp [*,errW_none,errW_some]<;>rfl),zl0_ HB⟩
      rw [if_pos c65] at H
      have c65b0:(t27==(wrap64 ((wrap64 (2+(Int.tmod (wrap64 (a0)) 20))) - x12_2)))=true:=beq_iff_eq.mpr c65
      have c65b1:(t27 !=(wrap64 ((wrap64 (2+(Int.tmod (wrap64 (a0)) 20))) - x12_2)))=false:=bne_eq_false_iff_eq.mpr c65
      clear c65
      have H':=Aside0.mk H
      clear H
      have p26:0≤(x12_2:Int):=of_decide_eq_true zq_
      have q26:x12_2<(x8_1.length:Int):=of_decide_eq_true zq_
      obtain ⟨ad26,e26,hx26_0,hx26_1,hx26_2,hx26_3,hx26_4⟩:=at_T39 (Kd.R_reads' HO_8.out).2.2 x12_2 p26 q26
      cases e26
      replace p26:=eq_true p26
      replace q26:=eq_true q26
      go_wp2_with (first|((with_reducible refine gate_callee (f:=27) rfl ?_);refine gl_ (some 85) Try.func27 #[.slice (some ad26) x8_1.length co59, .string ((rd_T39 x8_1 x12_2).f0)] ?_;(with_reducible refine (want_Depth.calls _ _ x8_1 ((rd_T39 x8_1 x12_2).f0) t27 _ ?side1 ?side2 A64.out).mono ?_);(case side1=>exact zc_ (Kd.R_reads' HO_8.out).2.2);(case side2=>exact (Kd.R_reads' HO_8.out).2.1);rintro e w66 ⟨rfl,hb⟩;refine ⟨_,rfl, ?_⟩;replace HO_8:=am_ (Kd.R_below (zr_ HO_8) hb);replace HB:=am_ (below_step (zl0_ HB) hb);(try clear hb);(try clear hb2);(try clear hk);(try clear hi)))
      go_roundg k2
      case measure=>have:=HK1.out;have:=HK2.out;omega
      case rel=>exact ⟨(wrap64 (x12_2+1)),(by first|rfl|(simp;done)|(simp [*];done)),H',⟨by have:=HK1.out;have:=HK2.out;omega⟩,⟨by (with_reducible repeat (first|apply Kd.R_alloc|apply Kd.R_drewN|apply Kd.R_drew));exact HO_8.out⟩,⟨zl0_ HB⟩⟩
   rw [if_pos c4] at H
   have c4b0:decide (x9_1<(wrap64 (2+(Int.tmod (wrap64 (a0)) 20))))=true:=decide_eq_true c4
   clear c4
   replace H:=Option.bind_eq_some_iff.mp H
   obtain ⟨t1,A50,H⟩:=H
   try dsimp only at H
   have A5:=Aside0.mk A50
   clear A50
   by_cases c6:1+t1.size≤9223372036854775807
   rotate_left
   ·rw [if_neg c6] at H
    exact absurd H (by simp)
   rw [if_pos c6] at H
   have c6b0:=eq_true c6
   have c6b1:decide (1+t1.size≤9223372036854775807)=true:=decide_eq_true c6
   try have c6b2:(9223372036854775807<1+t1.size)=False:=eq_false (Nat.not_lt.2 c6)
   replace H:=Option.bind_eq_some_iff.mp H
   obtain ⟨t2,A70,H⟩:=H
   try dsimp only at H
   have A7:=Aside0.mk A70
   clear A70
   by_cases c8:1+t2.size≤9223372036854775807
   rotate_left
   ·rw [if_neg c8] at H
    exact absurd H (by simp)
   rw [if_pos c8] at H
   have c8b0:=eq_true c8
   have c8b1:decide (1+t2.size≤9223372036854775807)=true:=decide_eq_true c8
   try have c8b2:(9223372036854775807<1+t2.size)=False:=eq_false (Nat.not_lt.2 c8)
   have HC9:=Aside0.mk H
   clear H
   go_upto_if 35 with (first|((with_reducible refine gate_callee (f:=33) rfl ?_);refine gl_ (some 23) Try.func33 #[.int .i64 x9_1] ?_;(with_reducible refine (r1_Digits.calls k1 x9_1 t1 _ A5.out).mono ?_);rintro e w10 ⟨rfl,hb⟩;refine ⟨_,rfl, ?_⟩;replace HO_8:=am_ (Kd.R_below (zr_ HO_8) hb);replace HB:=am_ (below_step (zl0_ HB) hb);(try clear hb);(try clear hb2);(try clear hk);(try clear hi))|((with_reducible refine gate_callee (f:=33) rfl ?_);refine gl_ (some 29) Try.func33 #[.int .i64 (wrap64 (x9_1+1))] ?_;(with_reducible refine (r1_Digits.calls k1 (wrap64 (x9_1+1)) t2 _ A7.out).mono ?_);rintro e w11 ⟨rfl,hb⟩;refine ⟨_,rfl, ?_⟩;replace HO_8:=am_ (Kd.R_below (zr_ HO_8) hb);replace HB:=am_ (below_step (zl0_ HB) hb);(try clear hb);(try clear hb2);(try clear hk);(try clear hi))|((with_reducible refine gate_dst (N:=10) rfl ?_);refine bx_ (N:=10) (cs:=#[.string (⟨#[]⟩:ByteArray), .string (⟨#[]⟩:ByteArray), .int .i64 0, .int .i64 0, .int .i64 0]) (t:=39) ?_;intro gb3 hg w12 hbox hb;replace HO_8:=am_ (Kd.R_below (Kd.R_elderB (zr_ HO_8) gb3 (Nat.le_of_eq hg.symm)) hb);have BK3:=am_ (hbox);have GW3:=am_ ((zg0_ HB hg:w.heap.size≤gb3));have GE3:=am_ ((zg0_ HB hg:w.heap.size≤gb3));replace HB:=am_ (below_step (zl0_ HB) hb);clear hb hbox hg;obtain ⟨hcz13_0,hcz13_1,hcz13_2,hcz13_3,hcz13_4⟩:=x5_ BK3;have hfz13_0:=blk_frozen BK3.out 0;have hfz13_1:=blk_frozen BK3.out 1;have hfz13_2:=blk_frozen BK3.out 2;have hfz13_3:=blk_frozen BK3.out 3;have hfz13_4:=blk_frozen BK3.out 4))
   (try simp only [Act.put,List.setIfInBounds_toArray,List.set_cons_zero,List.set_cons_succ])
   go_cut [] (fun wc=> ∃(kq:Nat) (x4001_8:ByteArray),Aside0 (law11_WantCircle.j1 kq a1 a2 (wrap64 (2+(Int.tmod (wrap64 (a0)) 20))) x8_1 x9_1 ((⟨#[110]⟩:ByteArray)++t1) x4001_8 (wrap64 (2+(Int.tmod (wrap64 (a0)) 20))) 0 0=some r)∧Aside0 (kq≤k1)∧Aside0 (Kd.R k39 39 wc w.heap.size (fun k_=>k_≠gb3) u8 x8_1)∧Aside0 (wc.heap[gb3]?=some (.cells #[.string ((⟨#[110]⟩:ByteArray)++t1), .string x4001_8, .int .i64 (wrap64 (2+(Int.tmod (wrap64 (a0)) 20))), .int .i64 0, .int .i64 0] 39 (0,0)))∧Aside0 (Below w.heap.size w wc))
   case first=>
    have H:=HC9.out
    clear HC9
    by_cases c14:x9_1=(wrap64 ((wrap64 (2+(Int.tmod (wrap64 (a0)) 20))) - 1))
    rotate_left
    ·rw [if_neg c14] at H
     have c14b0:(x9_1==(wrap64 ((wrap64 (2+(Int.tmod (wrap64 (a0)) 20))) - 1)))=false:=beq_eq_false_iff_ne.mpr c14
     have c14b1:(x9_1 !=(wrap64 ((wrap64 (2+(Int.tmod (wrap64 (a0)) 20))) - 1)))=true:=bne_iff_ne.mpr c14
     (first|rw [c14b0]|(simp only [i64_w,i32_w];rw [c14b0])|skip)
     have H':=Aside0.mk H
     clear H
     go_wp2
     go_meet
     case rel=>exact ⟨_,((⟨#[110]⟩:ByteArray)++t2),H',⟨by have:=HK1.out;first|omega|exact Nat.le_refl _⟩,⟨by (with_reducible repeat (first|apply Kd.R_alloc|apply Kd.R_drewN|apply Kd.R_drew));exact Kd.R_mono (Kd.R_far (p:=⟨gb3,4,none⟩) (Kd.R_far (p:=⟨gb3,3,none⟩) (Kd.R_far (p:=⟨gb3,2,none⟩) (Kd.R_far (p:=⟨gb3,1,none⟩) (Kd.R_far (p:=⟨gb3,0,none⟩) (Kd.R_mono HO_8.out (fun k_ hk=>(⟨hk,hk.2⟩:_∧k_≠gb3))) (fun _ hk=>hk.2) (.string ((⟨#[110]⟩:ByteArray)++t1))) (fun _ hk=>hk.2) (.string ((⟨#[110]⟩:ByteArray)++t2))) (fun _ hk=>hk.2) (.int .i64 (wrap64 (2+(Int.tmod (wrap64 (a0)) 20))))) (fun _ hk=>hk.2) (.int .i64 0)) (fun _ hk=>hk.2) (.int .i64 0)) (fun _ hk=>hk.1.2)⟩,⟨zw_ BK3⟩,⟨zl1_ HB GE3⟩⟩
    rw [if_pos c14] at H
    have c14b0:(x9_1==(wrap64 ((wrap64 (2+(Int.tmod (wrap64 (a0)) 20))) - 1)))=true:=beq_iff_eq.mpr c14
    have c14b1:(x9_1 !=(wrap64 ((wrap64 (2+(Int.tmod (wrap64 (a0)) 20))) - 1)))=false:=bne_eq_false_iff_eq.mpr c14
    clear c14
    (first|rw [c14b0]|(simp only [i64_w,i32_w];rw [c14b0])|skip)
    have H':=Aside0.mk H
    clear H
    obtain ⟨hcz15_0,hcz15_1,hcz15_2,hcz15_3,hcz15_4,hfz15_0,hfz15_1,hfz15_2,hfz15_3,hfz15_4⟩:=y5_ BK3
    go_wp2
    go_meet
    case rel=>exact ⟨_,((⟨#[]⟩:ByteArray)),H',⟨by have:=HK1.out;first|omega|exact Nat.le_refl _⟩,⟨by (with_reducible repeat (first|apply Kd.R_alloc|apply Kd.R_drewN|apply Kd.R_drew));exact Kd.R_mono (Kd.R_far (p:=⟨gb3,1,none⟩) (Kd.R_far (p:=⟨gb3,4,none⟩) (Kd.R_far (p:=⟨gb3,3,none⟩) (Kd.R_far (p:=⟨gb3,2,none⟩) (Kd.R_far (p:=⟨gb3,1,none⟩) (Kd.R_far (p:=⟨gb3,0,none⟩) (Kd.R_mono HO_8.out (fun k_ hk=>(⟨hk,hk.2⟩:_∧k_≠gb3))) (fun _ hk=>hk.2) (.string ((⟨#[110]⟩:ByteArray)++t1))) (fun _ hk=>hk.2) (.string ((⟨#[110]⟩:ByteArray)++t2))) (fun _ hk=>hk.2) (.int .i64 (wrap64 (2+(Int.tmod (wrap64 (a0)) 20))))) (fun _ hk=>hk.2) (.int .i64 0)) (fun _ hk=>hk.2) (.int .i64 0)) (fun _ hk=>hk.2) (.string (⟨#[]⟩:ByteArray))) (fun _ hk=>hk.1.2)⟩,⟨zw_ BK3⟩,⟨zl1_ HB GE3⟩⟩
   case rest=>
    clear HC9
    try clear c1
    try clear p2
    try clear c3
    try clear c4
    try clear c4b0
    try clear c6
    try clear c6b0
    try clear c6b1
    try clear c6b2
    try clear p6
    try clear c8
    try clear c8b0
    try clear c8b1
    try clear c8b2
    try clear c14
    try clear c14b0
    try clear c14b1
    try clear hcz13_0
    try clear hcz13_1
    try clear hcz13_2
    try clear hcz13_3
    try clear hcz13_4
    try clear hcz15_0
    try clear hcz15_1
    try clear hcz15_2
    try clear hcz15_3
    try clear hcz15_4
    try clear hfz13_0
    try clear hfz13_1
    try clear hfz13_2
    try clear hfz13_3
    try clear hfz13_4
    try clear hfz15_0
    try clear hfz15_1
    try clear hfz15_2
    try clear hfz15_3
    try clear hfz15_4
    try clear p2
    obtain ⟨kq,x4001_8,HA,HJ8,HO_8,BK3,HB⟩:=hcut
    cases kq with
    |zero=>exact absurd HA.out (by simp [law11_WantCircle.j1])
    |succ kj8=>
     have H:=HA.out
     clear HA
     simp only [law11_WantCircle.j1] at H
     have HC16:=Aside0.mk H
     clear H
     go_upto_region 9 with (fail)
     go_cut [43] (fun v43 wc=> ∃(kq:Nat) (x43_15:Bool),v43= .bool x43_15∧Aside0 (law11_WantCircle.j2 kq a1 a2 (wrap64 (2+(Int.tmod (wrap64 (a0)) 20))) x8_1 x9_1 x43_15 ((⟨#[110]⟩:ByteArray)++t1) x4001_8 (wrap64 (2+(Int.tmod (wrap64 (a0)) 20))) 0 0=some r)∧Aside0 (kq≤kj8)∧Aside0 (Kd.R k39 39 wc w.heap.size (fun k_=>k_≠gb3) u8 x8_1)∧Aside0 (wc.heap[gb3]?=some (.cells #[.string ((⟨#[110]⟩:ByteArray)++t1), .string x4001_8, .int .i64 (wrap64 (2+(Int.tmod (wrap64 (a0)) 20))), .int .i64 0, .int .i64 0] 39 (0,0)))∧Aside0 (Below w.heap.size w wc))
     case first=>
      have H:=HC16.out
      clear HC16
      by_cases c17:x9_1=(wrap64 ((wrap64 (2+(Int.tmod (wrap64 (a0)) 20))) - 1))
      ·rw [if_pos c17] at H
       have c17b0:(x9_1==(wrap64 ((wrap64 (2+(Int.tmod (wrap64 (a0)) 20))) - 1)))=true:=beq_iff_eq.mpr c17
       have c17b1:(x9_1 !=(wrap64 ((wrap64 (2+(Int.tmod (wrap64 (a0)) 20))) - 1)))=false:=bne_eq_false_iff_eq.mpr c17
       clear c17
       (first|rw [c17b0]|(simp only [i64_w,i32_w];rw [c17b0])|skip)
       have H':=Aside0.mk H
       clear H
       go_wp2
       go_meet
       case rel=>exact ⟨_,(a1),(by first|rfl|(simp;done)|(simp [*];done)),H',⟨by have:=HK1.out;have:=HJ8.out;first|omega|exact Nat.le_refl _⟩,⟨by (with_reducible repeat (first|apply Kd.R_alloc|apply Kd.R_drewN|apply Kd.R_drew));exact HO_8.out⟩,⟨by refine zk_ ?_;exact BK3.out⟩,⟨zl1_ HB GE3⟩⟩
      rw [if_neg c17] at H
      have c17b0:(x9_1==(wrap64 ((wrap64 (2+(Int.tmod (wrap64 (a0)) 20))) - 1)))=false:=beq_eq_false_iff_ne.mpr c17
      have c17b1:(x9_1 !=(wrap64 ((wrap64 (2+(Int.tmod (wrap64 (a0)) 20))) - 1)))=true:=bne_iff_ne.mpr c17
      (first|rw [c17b0]|(simp only [i64_w,i32_w];rw [c17b0])|skip)
      have H':=Aside0.mk H
      clear H
      go_wp2
      go_meet
      case rel=>exact ⟨_,(false),(by first|rfl|(simp;done)|(simp [*];done)),H',⟨by have:=HK1.out;have:=HJ8.out;first|omega|exact Nat.le_refl _⟩,⟨by (with_reducible repeat (first|apply Kd.R_alloc|apply Kd.R_drewN|apply Kd.R_drew));exact HO_8.out⟩,⟨by refine zk_ ?_;exact BK3.out⟩,⟨zl1_ HB GE3⟩⟩
     case rest=>
      clear HC16
      try clear c1
      try clear p2
      try clear c3
      try clear c4
      try clear c4b0
      try clear c6
      try clear c6b0
      try clear c6b1
      try clear c6b2
      try clear p6
      try clear c8
      try clear c8b0
      try clear c8b1
      try clear c8b2
      try clear c14
      try clear c14b0
      try clear c14b1
      try clear c17
      try clear c17b0
      try clear c17b1
      try clear hcz13_0
      try clear hcz13_1
      try clear hcz13_2
      try clear hcz13_3
      try clear hcz13_4
      try clear hcz15_0
      try clear hcz15_1
      try clear hcz15_2
      try clear hcz15_3
      try clear hcz15_4
      try clear hfz13_0
      try clear hfz13_1
      try clear hfz13_2
      try clear hfz13_3
      try clear hfz13_4
      try clear hfz15_0
      try clear hfz15_1
      try clear hfz15_2
      try clear hfz15_3
      try clear hfz15_4
      try clear p2
      try clear p6
      obtain ⟨kq,x43_15,rfl,HA,HJ15,HO_8,BK3,HB⟩:=hcut
      cases kq with
      |zero=>exact absurd HA.out (by simp [law11_WantCircle.j2])
      |succ kj15=>
       have H:=HA.out
       clear HA
       simp only [law11_WantCircle.j2] at H
       by_cases c18:x43_15=true
       ·subst c18
        have H1:(if x9_1=(wrap64 ((wrap64 (2+(Int.tmod (wrap64 (a0)) 20))) - 1)) then (if a2=true then (if x8_1.length<2513169434916 then (law11_WantCircle.l0 kj15 a1 a2 (wrap64 (2+(Int.tmod (wrap64 (a0)) 20))) (x8_1++ [(⟨((⟨#[110]⟩:ByteArray)++t1),(⟨#[110,111,110,101]⟩:ByteArray),(⟨(wrap64 (2+(Int.tmod (wrap64 (a0)) 20))),0,0⟩:S37)⟩:S39)]) (wrap64 (x9_1+1))) else (none)) else (if x8_1.length<2513169434916 then (law11_WantCircle.l0 kj15 a1 a2 (wrap64 (2+(Int.tmod (wrap64 (a0)) 20))) (x8_1++ [(⟨((⟨#[110]⟩:ByteArray)++t1),(⟨#[110,48]⟩:ByteArray),(⟨(wrap64 (2+(Int.tmod (wrap64 (a0)) 20))),0,0⟩:S37)⟩:S39)]) (wrap64 (x9_1+1))) else (none))) else (if x8_1.length<2513169434916 then (law11_WantCircle.l0 kj15 a1 a2 (wrap64 (2+(Int.tmod (wrap64 (a0)) 20))) (x8_1++ [(⟨((⟨#[110]⟩:ByteArray)++t1),(⟨#[110,48]⟩:ByteArray),(⟨(wrap64 (2+(Int.tmod (wrap64 (a0)) 20))),0,0⟩:S37)⟩:S39)]) (wrap64 (x9_1+1))) else (none)))=some r:=by rw [if_pos rfl] at H;exact H
        clear H
        have H:=H1
        clear H1
        by_cases c19:x9_1=(wrap64 ((wrap64 (2+(Int.tmod (wrap64 (a0)) 20))) - 1))
        rotate_left
        ·rw [if_neg c19] at H
         have c19b0:(x9_1==(wrap64 ((wrap64 (2+(Int.tmod (wrap64 (a0)) 20))) - 1)))=false:=beq_eq_false_iff_ne.mpr c19
         have c19b1:(x9_1 !=(wrap64 ((wrap64 (2+(Int.tmod (wrap64 (a0)) 20))) - 1)))=true:=bne_iff_ne.mpr c19
         by_cases c27:x8_1.length<2513169434916
         rotate_left
         ·rw [if_neg c27] at H
          exact absurd H (by simp)
         rw [if_pos c27] at H
         have LMc27:=Aside0.mk c27
         clear c27
         obtain ⟨y10,hy10⟩: ∃y_:List (S39),y_=(x8_1++ [(⟨((⟨#[110]⟩:ByteArray)++t1),(⟨#[110,48]⟩:ByteArray),(⟨(wrap64 (2+(Int.tmod (wrap64 (a0)) 20))),0,0⟩:S37)⟩:S39)]):=⟨_,rfl⟩
         replace H:(law11_WantCircle.l0 kj15 a1 a2 (wrap64 (2+(Int.tmod (wrap64 (a0)) 20))) y10 (wrap64 (x9_1+1)))=some r:=by first|(rw [hy10];with_reducible exact H)|(have H2_:=(Option.bind_some _ _).symm.trans H;rw [hy10];with_reducible exact H2_)|(have H2_:=(Option.bind_some _ _).symm.trans H;with_reducible exact H2_)|with_reducible exact H|(rw [hy10];exact H)|exact H
         have Ny10:=Aside0.mk hy10
         clear hy10
         have H':=Aside0.mk H
         clear H
         obtain ⟨hcz28_0,hcz28_1,hcz28_2,hcz28_3,hcz28_4,hfz28_0,hfz28_1,hfz28_2,hfz28_3,hfz28_4⟩:=y5_ BK3
         go_wp2_with (first|((with_reducible refine gate_builtin (b:= .append) (xs:=#[.tmp 53, .tmp 55]) rfl ?_);at_builtin;refine Kd.R_append k39 (w0:=w) w.heap.size rfl (.tmp 53) (.tmp 55) 22 39 (.agg #[(.string ⟨#[]⟩),(.string ⟨#[]⟩),(.int .i64 0),(.int .i64 0),(.int .i64 0)]) 56 rfl Try.underlying22 info39 rfl (by decide) (by omega) u8 x8_1 (⟨((⟨#[110]⟩:ByteArray)++t1),(⟨#[110,48]⟩:ByteArray),(⟨(wrap64 (2+(Int.tmod (wrap64 (a0)) 20))),0,0⟩:S37)⟩:S39) [.string ((⟨#[110]⟩:ByteArray)++t1), .string (⟨#[110,48]⟩:ByteArray), .int .i64 (wrap64 (2+(Int.tmod (wrap64 (a0)) 20))), .int .i64 0, .int .i64 0] (fun k_=>k_≠gb3) (fun _=>False) rfl (by first|(go_simp;done)|(go_simp;rfl)) ?aP (fun _ hk=>hk.elim) ?aF ?aO ?aB ?aS ?aL ?_;(case aP=>exact k39_mkM _ _ _ (⟨((⟨#[110]⟩:ByteArray)++t1),(⟨#[110,48]⟩:ByteArray),(⟨(wrap64 (2+(Int.tmod (wrap64 (a0)) 20))),0,0⟩:S37)⟩:S39));(case aB=>exact (zl1_ HB GE3));(case aF=>exact (fun k_ hk=>Kd.freshB (g:=gb3) (o:= .cells #[.string ((⟨#[110]⟩:ByteArray)++t1), .string (⟨#[110,48]⟩:ByteArray), .int .i64 (wrap64 (2+(Int.tmod (wrap64 (a0)) 20))), .int .i64 0, .int .i64 0] 39 (0,0)) (zw_ BK3) k_ hk));(case aO=>exact (by refine zt_ ?_;exact Kd.R_mono (Kd.R_far (p:=⟨gb3,1,none⟩) (Kd.R_mono HO_8.out (fun k_ hk=>(⟨hk,hk⟩:_∧k_≠gb3))) (fun _ hk=>hk.2) (.string (⟨#[110,48]⟩:ByteArray))) (fun _ hk=>hk.1)));(case aS=>exact (below_size (zl1_ HB GE3)));(case aL=>have:=LMc27.out;omega);intro v11 w29 ho hb hg hat;rw [←Ny10.out] at ho;have n0_:=am_ (blk_grown (g:=gb3) (o:= .cells #[.string ((⟨#[110]⟩:ByteArray)++t1), .string (⟨#[110,48]⟩:ByteArray), .int .i64 (wrap64 (2+(Int.tmod (wrap64 (a0)) 20))), .int .i64 0, .int .i64 0] 39 (0,0)) (zw_ BK3) hg (Kd.R_away HO_8.out (fun _ hk=>hk)));have n1_:=am_ (hb);have n2_:=am_ (ho);clear BK3;clear HB;clear HO_8;have BK3:=n0_;have HB:=n1_;have HO12:=n2_;clear n0_ n1_ n2_;clear ho hb hg hat))
         go_roundg kj15
         case measure=>have:=HK1.out;have:=HJ8.out;have:=HJ15.out;omega
         case rel=>exact ⟨(y10),(wrap64 (x9_1+1)),(by first|rfl|(simp;done)|(simp [*];done)),H',⟨by have:=HK1.out;have:=HJ8.out;have:=HJ15.out;omega⟩,⟨by (with_reducible repeat (first|apply Kd.R_alloc|apply Kd.R_drewN|apply Kd.R_drew));exact Kd.R_mono HO12.out (fun _ hk=>trivial)⟩,⟨zl1_ HB GE3⟩⟩
        rw [if_pos c19] at H
        have c19b0:(x9_1==(wrap64 ((wrap64 (2+(Int.tmod (wrap64 (a0)) 20))) - 1)))=true:=beq_iff_eq.mpr c19
        have c19b1:(x9_1 !=(wrap64 ((wrap64 (2+(Int.tmod (wrap64 (a0)) 20))) - 1)))=false:=bne_eq_false_iff_eq.mpr c19
        clear c19
        by_cases c20:a2=true
        ·subst c20
         have H1:(if x8_1.length<2513169434916 then (law11_WantCircle.l0 kj15 a1 true (wrap64 (2+(Int.tmod (wrap64 (a0)) 20))) (x8_1++ [(⟨((⟨#[110]⟩:ByteArray)++t1),(⟨#[110,111,110,101]⟩:ByteArray),(⟨(wrap64 (2+(Int.tmod (wrap64 (a0)) 20))),0,0⟩:S37)⟩:S39)]) (wrap64 (x9_1+1))) else (none))=some r:=by rw [if_pos rfl] at H;exact H
         clear H
         have H:=H1
         clear H1
         by_cases c21:x8_1.length<2513169434916
         rotate_left
         ·rw [if_neg c21] at H
          exact absurd H (by simp)
         rw [if_pos c21] at H
         have LMc21:=Aside0.mk c21
         clear c21
         obtain ⟨y4,hy4⟩: ∃y_:List (S39),y_=(x8_1++ [(⟨((⟨#[110]⟩:ByteArray)++t1),(⟨#[110,111,110,101]⟩:ByteArray),(⟨(wrap64 (2+(Int.tmod (wrap64 (a0)) 20))),0,0⟩:S37)⟩:S39)]):=⟨_,rfl⟩
         replace H:(law11_WantCircle.l0 kj15 a1 true (wrap64 (2+(Int.tmod (wrap64 (a0)) 20))) y4 (wrap64 (x9_1+1)))=some r:=by first|(rw [hy4];with_reducible exact H)|(have H2_:=(Option.bind_some _ _).symm.trans H;rw [hy4];with_reducible exact H2_)|(have H2_:=(Option.bind_some _ _).symm.trans H;with_reducible exact H2_)|with_reducible exact H|(rw [hy4];exact H)|exact H
         have Ny4:=Aside0.mk hy4
         clear hy4
         have H':=Aside0.mk H
         clear H
         obtain ⟨hcz22_0,hcz22_1,hcz22_2,hcz22_3,hcz22_4,hfz22_0,hfz22_1,hfz22_2,hfz22_3,hfz22_4⟩:=y5_ BK3
         go_wp2_with (first|((with_reducible refine gate_builtin (b:= .append) (xs:=#[.tmp 53, .tmp 55]) rfl ?_);at_builtin;refine Kd.R_append k39 (w0:=w) w.heap.size rfl (.tmp 53) (.tmp 55) 22 39 (.agg #[(.string ⟨#[]⟩),(.string ⟨#[]⟩),(.int .i64 0),(.int .i64 0),(.int .i64 0)]) 56 rfl Try.underlying22 info39 rfl (by decide) (by omega) u8 x8_1 (⟨((⟨#[110]⟩:ByteArray)++t1),(⟨#[110,111,110,101]⟩:ByteArray),(⟨(wrap64 (2+(Int.tmod (wrap64 (a0)) 20))),0,0⟩:S37)⟩:S39) [.string ((⟨#[110]⟩:ByteArray)++t1), .string (⟨#[110,111,110,101]⟩:ByteArray), .int .i64 (wrap64 (2+(Int.tmod (wrap64 (a0)) 20))), .int .i64 0, .int .i64 0] (fun k_=>k_≠gb3) (fun _=>False) rfl (by first|(go_simp;done)|(go_simp;rfl)) ?aP (fun _ hk=>hk.elim) ?aF ?aO ?aB ?aS ?aL ?_;(case aP=>exact k39_mkM _ _ _ (⟨((⟨#[110]⟩:ByteArray)++t1),(⟨#[110,111,110,101]⟩:ByteArray),(⟨(wrap64 (2+(Int.tmod (wrap64 (a0)) 20))),0,0⟩:S37)⟩:S39));(case aB=>exact (zl1_ HB GE3));(case aF=>exact (fun k_ hk=>Kd.freshB (g:=gb3) (o:= .cells #[.string ((⟨#[110]⟩:ByteArray)++t1), .string (⟨#[110,111,110,101]⟩:ByteArray), .int .i64 (wrap64 (2+(Int.tmod (wrap64 (a0)) 20))), .int .i64 0, .int .i64 0] 39 (0,0)) (zw_ BK3) k_ hk));(case aO=>exact (by refine zt_ ?_;exact Kd.R_mono (Kd.R_far (p:=⟨gb3,1,none⟩) (Kd.R_far (p:=⟨gb3,1,none⟩) (Kd.R_mono HO_8.out (fun k_ hk=>(⟨hk,hk⟩:_∧k_≠gb3))) (fun _ hk=>hk.2) (.string (⟨#[110,48]⟩:ByteArray))) (fun _ hk=>hk.2) (.string (⟨#[110,111,110,101]⟩:ByteArray))) (fun _ hk=>hk.1)));(case aS=>exact (below_size (zl1_ HB GE3)));(case aL=>have:=LMc21.out;omega);intro v5 w23 ho hb hg hat;rw [←Ny4.out] at ho;have n0_:=am_ (blk_grown (g:=gb3) (o:= .cells #[.string ((⟨#[110]⟩:ByteArray)++t1), .string (⟨#[110,111,110,101]⟩:ByteArray), .int .i64 (wrap64 (2+(Int.tmod (wrap64 (a0)) 20))), .int .i64 0, .int .i64 0] 39 (0,0)) (zw_ BK3) hg (Kd.R_away HO_8.out (fun _ hk=>hk)));have n1_:=am_ (hb);have n2_:=am_ (ho);clear BK3;clear HB;clear HO_8;have BK3:=n0_;have HB:=n1_;have HO6:=n2_;clear n0_ n1_ n2_;clear ho hb hg hat))
         go_roundg kj15
         case measure=>have:=HK1.out;have:=HJ8.out;have:=HJ15.out;omega
         case rel=>exact ⟨(y4),(wrap64 (x9_1+1)),(by first|rfl|(simp;done)|(simp [*];done)),H',⟨by have:=HK1.out;have:=HJ8.out;have:=HJ15.out;omega⟩,⟨by (with_reducible repeat (first|apply Kd.R_alloc|apply Kd.R_drewN|apply Kd.R_drew));exact Kd.R_mono HO6.out (fun _ hk=>trivial)⟩,⟨zl1_ HB GE3⟩⟩
        replace c20:=Bool.eq_false_iff.mpr c20
        subst c20
        have H1:(if x8_1.length<2513169434916 then (law11_WantCircle.l0 kj15 a1 false (wrap64 (2+(Int.tmod (wrap64 (a0)) 20))) (x8_1++ [(⟨((⟨#[110]⟩:ByteArray)++t1),(⟨#[110,48]⟩:ByteArray),(⟨(wrap64 (2+(Int.tmod (wrap64 (a0)) 20))),0,0⟩:S37)⟩:S39)]) (wrap64 (x9_1+1))) else (none))=some r:=by rw [if_neg (show¬(false=true) by decide)] at H;exact H
        clear H
        have H:=H1
        clear H1
        by_cases c24:x8_1.length<2513169434916
        rotate_left
        ·rw [if_neg c24] at H
         exact absurd H (by simp)
        rw [if_pos c24] at H
        have LMc24:=Aside0.mk c24
        clear c24
        obtain ⟨y7,hy7⟩: ∃y_:List (S39),y_=(x8_1++ [(⟨((⟨#[110]⟩:ByteArray)++t1),(⟨#[110,48]⟩:ByteArray),(⟨(wrap64 (2+(Int.tmod (wrap64 (a0)) 20))),0,0⟩:S37)⟩:S39)]):=⟨_,rfl⟩
        replace H:(law11_WantCircle.l0 kj15 a1 false (wrap64 (2+(Int.tmod (wrap64 (a0)) 20))) y7 (wrap64 (x9_1+1)))=some r:=by first|(rw [hy7];with_reducible exact H)|(have H2_:=(Option.bind_some _ _).symm.trans H;rw [hy7];with_reducible exact H2_)|(have H2_:=(Option.bind_some _ _).symm.trans H;with_reducible exact H2_)|with_reducible exact H|(rw [hy7];exact H)|exact H
        have Ny7:=Aside0.mk hy7
        clear hy7
        have H':=Aside0.mk H
        clear H
        obtain ⟨hcz25_0,hcz25_1,hcz25_2,hcz25_3,hcz25_4,hfz25_0,hfz25_1,hfz25_2,hfz25_3,hfz25_4⟩:=y5_ BK3
        go_wp2_with (first|((with_reducible refine gate_builtin (b:= .append) (xs:=#[.tmp 53, .tmp 55]) rfl ?_);at_builtin;refine Kd.R_append k39 (w0:=w) w.heap.size rfl (.tmp 53) (.tmp 55) 22 39 (.agg #[(.string ⟨#[]⟩),(.string ⟨#[]⟩),(.int .i64 0),(.int .i64 0),(.int .i64 0)]) 56 rfl Try.underlying22 info39 rfl (by decide) (by omega) u8 x8_1 (⟨((⟨#[110]⟩:ByteArray)++t1),(⟨#[110,48]⟩:ByteArray),(⟨(wrap64 (2+(Int.tmod (wrap64 (a0)) 20))),0,0⟩:S37)⟩:S39) [.string ((⟨#[110]⟩:ByteArray)++t1), .string (⟨#[110,48]⟩:ByteArray), .int .i64 (wrap64 (2+(Int.tmod (wrap64 (a0)) 20))), .int .i64 0, .int .i64 0] (fun k_=>k_≠gb3) (fun _=>False) rfl (by first|(go_simp;done)|(go_simp;rfl)) ?aP (fun _ hk=>hk.elim) ?aF ?aO ?aB ?aS ?aL ?_;(case aP=>exact k39_mkM _ _ _ (⟨((⟨#[110]⟩:ByteArray)++t1),(⟨#[110,48]⟩:ByteArray),(⟨(wrap64 (2+(Int.tmod (wrap64 (a0)) 20))),0,0⟩:S37)⟩:S39));(case aB=>exact (zl1_ HB GE3));(case aF=>exact (fun k_ hk=>Kd.freshB (g:=gb3) (o:= .cells #[.string ((⟨#[110]⟩:ByteArray)++t1), .string (⟨#[110,48]⟩:ByteArray), .int .i64 (wrap64 (2+(Int.tmod (wrap64 (a0)) 20))), .int .i64 0, .int .i64 0] 39 (0,0)) (zw_ BK3) k_ hk));(case aO=>exact (by refine zt_ ?_;exact Kd.R_mono (Kd.R_far (p:=⟨gb3,1,none⟩) (Kd.R_mono HO_8.out (fun k_ hk=>(⟨hk,hk⟩:_∧k_≠gb3))) (fun _ hk=>hk.2) (.string (⟨#[110,48]⟩:ByteArray))) (fun _ hk=>hk.1)));(case aS=>exact (below_size (zl1_ HB GE3)));(case aL=>have:=LMc24.out;omega);intro v8 w26 ho hb hg hat;rw [←Ny7.out] at ho;have n0_:=am_ (blk_grown (g:=gb3) (o:= .cells #[.string ((⟨#[110]⟩:ByteArray)++t1), .string (⟨#[110,48]⟩:ByteArray), .int .i64 (wrap64 (2+(Int.tmod (wrap64 (a0)) 20))), .int .i64 0, .int .i64 0] 39 (0,0)) (zw_ BK3) hg (Kd.R_away HO_8.out (fun _ hk=>hk)));have n1_:=am_ (hb);have n2_:=am_ (ho);clear BK3;clear HB;clear HO_8;have BK3:=n0_;have HB:=n1_;have HO9:=n2_;clear n0_ n1_ n2_;clear ho hb hg hat))
        go_roundg kj15
        case measure=>have:=HK1.out;have:=HJ8.out;have:=HJ15.out;omega
        case rel=>exact ⟨(y7),(wrap64 (x9_1+1)),(by first|rfl|(simp;done)|(simp [*];done)),H',⟨by have:=HK1.out;have:=HJ8.out;have:=HJ15.out;omega⟩,⟨by (with_reducible repeat (first|apply Kd.R_alloc|apply Kd.R_drewN|apply Kd.R_drew));exact Kd.R_mono HO9.out (fun _ hk=>trivial)⟩,⟨zl1_ HB GE3⟩⟩
       replace c18:=Bool.eq_false_iff.mpr c18
       subst c18
       have H1:(if x9_1=(wrap64 ((wrap64 (2+(Int.tmod (wrap64 (a0)) 20))) - 1)) then (if a2=true then (if x8_1.length<2513169434916 then (law11_WantCircle.l0 kj15 a1 a2 (wrap64 (2+(Int.tmod (wrap64 (a0)) 20))) (x8_1++ [(⟨((⟨#[110]⟩:ByteArray)++t1),(⟨#[110,111,110,101]⟩:ByteArray),(⟨(wrap64 (2+(Int.tmod (wrap64 (a0)) 20))),0,0⟩:S37)⟩:S39)]) (wrap64 (x9_1+1))) else (none)) else (if x8_1.length<2513169434916 then (law11_WantCircle.l0 kj15 a1 a2 (wrap64 (2+(Int.tmod (wrap64 (a0)) 20))) (x8_1++ [(⟨((⟨#[110]⟩:ByteArray)++t1),x4001_8,(⟨(wrap64 (2+(Int.tmod (wrap64 (a0)) 20))),0,0⟩:S37)⟩:S39)]) (wrap64 (x9_1+1))) else (none))) else (if x8_1.length<2513169434916 then (law11_WantCircle.l0 kj15 a1 a2 (wrap64 (2+(Int.tmod (wrap64 (a0)) 20))) (x8_1++ [(⟨((⟨#[110]⟩:ByteArray)++t1),x4001_8,(⟨(wrap64 (2+(Int.tmod (wrap64 (a0)) 20))),0,0⟩:S37)⟩:S39)]) (wrap64 (x9_1+1))) else (none)))=some r:=by rw [if_neg (show¬(false=true) by decide)] at H;exact H
       clear H
       have H:=H1
       clear H1
       by_cases c30:x9_1=(wrap64 ((wrap64 (2+(Int.tmod (wrap64 (a0)) 20))) - 1))
       rotate_left
       ·rw [if_neg c30] at H
        have c30b0:(x9_1==(wrap64 ((wrap64 (2+(Int.tmod (wrap64 (a0)) 20))) - 1)))=false:=beq_eq_false_iff_ne.mpr c30
        have c30b1:(x9_1 !=(wrap64 ((wrap64 (2+(Int.tmod (wrap64 (a0)) 20))) - 1)))=true:=bne_iff_ne.mpr c30
        by_cases c38:x8_1.length<2513169434916
        rotate_left
        ·rw [if_neg c38] at H
         exact absurd H (by simp)
        rw [if_pos c38] at H
        have LMc38:=Aside0.mk c38
        clear c38
        obtain ⟨y19,hy19⟩: ∃y_:List (S39),y_=(x8_1++ [(⟨((⟨#[110]⟩:ByteArray)++t1),x4001_8,(⟨(wrap64 (2+(Int.tmod (wrap64 (a0)) 20))),0,0⟩:S37)⟩:S39)]):=⟨_,rfl⟩
        replace H:(law11_WantCircle.l0 kj15 a1 a2 (wrap64 (2+(Int.tmod (wrap64 (a0)) 20))) y19 (wrap64 (x9_1+1)))=some r:=by first|(rw [hy19];with_reducible exact H)|(have H2_:=(Option.bind_some _ _).symm.trans H;rw [hy19];with_reducible exact H2_)|(have H2_:=(Option.bind_some _ _).symm.trans H;with_reducible exact H2_)|with_reducible exact H|(rw [hy19];exact H)|exact H
        have Ny19:=Aside0.mk hy19
        clear hy19
        have H':=Aside0.mk H
        clear H
        obtain ⟨hcz39_0,hcz39_1,hcz39_2,hcz39_3,hcz39_4,hfz39_0,hfz39_1,hfz39_2,hfz39_3,hfz39_4⟩:=y5_ BK3
        go_wp2_with (first|((with_reducible refine gate_builtin (b:= .append) (xs:=#[.tmp 53, .tmp 55]) rfl ?_);at_builtin;refine Kd.R_append k39 (w0:=w) w.heap.size rfl (.tmp 53) (.tmp 55) 22 39 (.agg #[(.string ⟨#[]⟩),(.string ⟨#[]⟩),(.int .i64 0),(.int .i64 0),(.int .i64 0)]) 56 rfl Try.underlying22 info39 rfl (by decide) (by omega) u8 x8_1 (⟨((⟨#[110]⟩:ByteArray)++t1),x4001_8,(⟨(wrap64 (2+(Int.tmod (wrap64 (a0)) 20))),0,0⟩:S37)⟩:S39) [.string ((⟨#[110]⟩:ByteArray)++t1), .string x4001_8, .int .i64 (wrap64 (2+(Int.tmod (wrap64 (a0)) 20))), .int .i64 0, .int .i64 0] (fun k_=>k_≠gb3) (fun _=>False) rfl rfl ?aP (fun _ hk=>hk.elim) ?aF ?aO ?aB ?aS ?aL ?_;(case aP=>exact k39_mkM _ _ _ (⟨((⟨#[110]⟩:ByteArray)++t1),x4001_8,(⟨(wrap64 (2+(Int.tmod (wrap64 (a0)) 20))),0,0⟩:S37)⟩:S39));(case aB=>exact (zl1_ HB GE3));(case aF=>exact (fun k_ hk=>Kd.freshB (g:=gb3) (o:= .cells #[.string ((⟨#[110]⟩:ByteArray)++t1), .string x4001_8, .int .i64 (wrap64 (2+(Int.tmod (wrap64 (a0)) 20))), .int .i64 0, .int .i64 0] 39 (0,0)) (zb_ BK3) k_ hk));(case aO=>exact (zr_ HO_8));(case aS=>exact (below_size (zl1_ HB GE3)));(case aL=>have:=LMc38.out;omega);intro v20 w40 ho hb hg hat;rw [←Ny19.out] at ho;have n0_:=am_ (blk_grown (g:=gb3) (o:= .cells #[.string ((⟨#[110]⟩:ByteArray)++t1), .string x4001_8, .int .i64 (wrap64 (2+(Int.tmod (wrap64 (a0)) 20))), .int .i64 0, .int .i64 0] 39 (0,0)) (zb_ BK3) hg (Kd.R_away HO_8.out (fun _ hk=>hk)));have n1_:=am_ (hb);have n2_:=am_ (ho);clear BK3;clear HB;clear HO_8;have BK3:=n0_;have HB:=n1_;have HO21:=n2_;clear n0_ n1_ n2_;clear ho hb hg hat))
        go_roundg kj15
        case measure=>have:=HK1.out;have:=HJ8.out;have:=HJ15.out;omega
        case rel=>exact ⟨(y19),(wrap64 (x9_1+1)),(by first|rfl|(simp;done)|(simp [*];done)),H',⟨by have:=HK1.out;have:=HJ8.out;have:=HJ15.out;omega⟩,⟨by (with_reducible repeat (first|apply Kd.R_alloc|apply Kd.R_drewN|apply Kd.R_drew));exact Kd.R_mono HO21.out (fun _ hk=>trivial)⟩,⟨zl1_ HB GE3⟩⟩
       rw [if_pos c30] at H
       have c30b0:(x9_1==(wrap64 ((wrap64 (2+(Int.tmod (wrap64 (a0)) 20))) - 1)))=true:=beq_iff_eq.mpr c30
       have c30b1:(x9_1 !=(wrap64 ((wrap64 (2+(Int.tmod (wrap64 (a0)) 20))) - 1)))=false:=bne_eq_false_iff_eq.mpr c30
       clear c30
       by_cases c31:a2=true
       ·subst c31
        have H1:(if x8_1.length<2513169434916 then (law11_WantCircle.l0 kj15 a1 true (wrap64 (2+(Int.tmod (wrap64 (a0)) 20))) (x8_1++ [(⟨((⟨#[110]⟩:ByteArray)++t1),(⟨#[110,111,110,101]⟩:ByteArray),(⟨(wrap64 (2+(Int.tmod (wrap64 (a0)) 20))),0,0⟩:S37)⟩:S39)]) (wrap64 (x9_1+1))) else (none))=some r:=by rw [if_pos rfl] at H;exact H
        clear H
        have H:=H1
        clear H1
        by_cases c32:x8_1.length<2513169434916
        rotate_left
        ·rw [if_neg c32] at H
         exact absurd H (by simp)
        rw [if_pos c32] at H
        have LMc32:=Aside0.mk c32
        clear c32
        obtain ⟨y13,hy13⟩: ∃y_:List (S39),y_=(x8_1++ [(⟨((⟨#[110]⟩:ByteArray)++t1),(⟨#[110,111,110,101]⟩:ByteArray),(⟨(wrap64 (2+(Int.tmod (wrap64 (a0)) 20))),0,0⟩:S37)⟩:S39)]):=⟨_,rfl⟩
        replace H:(law11_WantCircle.l0 kj15 a1 true (wrap64 (2+(Int.tmod (wrap64 (a0)) 20))) y13 (wrap64 (x9_1+1)))=some r:=by first|(rw [hy13];with_reducible exact H)|(have H2_:=(Option.bind_some _ _).symm.trans H;rw [hy13];with_reducible exact H2_)|(have H2_:=(Option.bind_some _ _).symm.trans H;with_reducible exact H2_)|with_reducible exact H|(rw [hy13];exact H)|exact H
        have Ny13:=Aside0.mk hy13
        clear hy13
        have H':=Aside0.mk H
        clear H
        obtain ⟨hcz33_0,hcz33_1,hcz33_2,hcz33_3,hcz33_4,hfz33_0,hfz33_1,hfz33_2,hfz33_3,hfz33_4⟩:=y5_ BK3
        go_wp2_with (first|((with_reducible refine gate_builtin (b:= .append) (xs:=#[.tmp 53, .tmp 55]) rfl ?_);at_builtin;refine Kd.R_append k39 (w0:=w) w.heap.size rfl (.tmp 53) (.tmp 55) 22 39 (.agg #[(.string ⟨#[]⟩),(.string ⟨#[]⟩),(.int .i64 0),(.int .i64 0),(.int .i64 0)]) 56 rfl Try.underlying22 info39 rfl (by decide) (by omega) u8 x8_1 (⟨((⟨#[110]⟩:ByteArray)++t1),(⟨#[110,111,110,101]⟩:ByteArray),(⟨(wrap64 (2+(Int.tmod (wrap64 (a0)) 20))),0,0⟩:S37)⟩:S39) [.string ((⟨#[110]⟩:ByteArray)++t1), .string (⟨#[110,111,110,101]⟩:ByteArray), .int .i64 (wrap64 (2+(Int.tmod (wrap64 (a0)) 20))), .int .i64 0, .int .i64 0] (fun k_=>k_≠gb3) (fun _=>False) rfl (by first|(go_simp;done)|(go_simp;rfl)) ?aP (fun _ hk=>hk.elim) ?aF ?aO ?aB ?aS ?aL ?_;(case aP=>exact k39_mkM _ _ _ (⟨((⟨#[110]⟩:ByteArray)++t1),(⟨#[110,111,110,101]⟩:ByteArray),(⟨(wrap64 (2+(Int.tmod (wrap64 (a0)) 20))),0,0⟩:S37)⟩:S39));(case aB=>exact (zl1_ HB GE3));(case aF=>exact (fun k_ hk=>Kd.freshB (g:=gb3) (o:= .cells #[.string ((⟨#[110]⟩:ByteArray)++t1), .string (⟨#[110,111,110,101]⟩:ByteArray), .int .i64 (wrap64 (2+(Int.tmod (wrap64 (a0)) 20))), .int .i64 0, .int .i64 0] 39 (0,0)) (zw_ BK3) k_ hk));(case aO=>exact (by refine zt_ ?_;exact Kd.R_mono (Kd.R_far (p:=⟨gb3,1,none⟩) (Kd.R_mono HO_8.out (fun k_ hk=>(⟨hk,hk⟩:_∧k_≠gb3))) (fun _ hk=>hk.2) (.string (⟨#[110,111,110,101]⟩:ByteArray))) (fun _ hk=>hk.1)));(case aS=>exact (below_size (zl1_ HB GE3)));(case aL=>have:=LMc32.out;omega);intro v14 w34 ho hb hg hat;rw [←Ny13.out] at ho;have n0_:=am_ (blk_grown (g:=gb3) (o:= .cells #[.string ((⟨#[110]⟩:ByteArray)++t1), .string (⟨#[110,111,110,101]⟩:ByteArray), .int .i64 (wrap64 (2+(Int.tmod (wrap64 (a0)) 20))), .int .i64 0, .int .i64 0] 39 (0,0)) (zw_ BK3) hg (Kd.R_away HO_8.out (fun _ hk=>hk)));have n1_:=am_ (hb);have n2_:=am_ (ho);clear BK3;clear HB;clear HO_8;have BK3:=n0_;have HB:=n1_;have HO15:=n2_;clear n0_ n1_ n2_;clear ho hb hg hat))
        go_roundg kj15
        case measure=>have:=HK1.out;have:=HJ8.out;have:=HJ15.out;omega
        case rel=>exact ⟨(y13),(wrap64 (x9_1+1)),(by first|rfl|(simp;done)|(simp [*];done)),H',⟨by have:=HK1.out;have:=HJ8.out;have:=HJ15.out;omega⟩,⟨by (with_reducible repeat (first|apply Kd.R_alloc|apply Kd.R_drewN|apply Kd.R_drew));exact Kd.R_mono HO15.out (fun _ hk=>trivial)⟩,⟨zl1_ HB GE3⟩⟩
       replace c31:=Bool.eq_false_iff.mpr c31
       subst c31
       have H1:(if x8_1.length<2513169434916 then (law11_WantCircle.l0 kj15 a1 false (wrap64 (2+(Int.tmod (wrap64 (a0)) 20))) (x8_1++ [(⟨((⟨#[110]⟩:ByteArray)++t1),x4001_8,(⟨(wrap64 (2+(Int.tmod (wrap64 (a0)) 20))),0,0⟩:S37)⟩:S39)]) (wrap64 (x9_1+1))) else (none))=some r:=by rw [if_neg (show¬(false=true) by decide)] at H;exact H
       clear H
       have H:=H1
       clear H1
       by_cases c35:x8_1.length<2513169434916
       rotate_left
       ·rw [if_neg c35] at H
        exact absurd H (by simp)
       rw [if_pos c35] at H
       have LMc35:=Aside0.mk c35
       clear c35
       obtain ⟨y16,hy16⟩: ∃y_:List (S39),y_=(x8_1++ [(⟨((⟨#[110]⟩:ByteArray)++t1),x4001_8,(⟨(wrap64 (2+(Int.tmod (wrap64 (a0)) 20))),0,0⟩:S37)⟩:S39)]):=⟨_,rfl⟩
       replace H:(law11_WantCircle.l0 kj15 a1 false (wrap64 (2+(Int.tmod (wrap64 (a0)) 20))) y16 (wrap64 (x9_1+1)))=some r:=by first|(rw [hy16];with_reducible exact H)|(have H2_:=(Option.bind_some _ _).symm.trans H;rw [hy16];with_reducible exact H2_)|(have H2_:=(Option.bind_some _ _).symm.trans H;with_reducible exact H2_)|with_reducible exact H|(rw [hy16];exact H)|exact H
       have Ny16:=Aside0.mk hy16
       clear hy16
       have H':=Aside0.mk H
       clear H
       obtain ⟨hcz36_0,hcz36_1,hcz36_2,hcz36_3,hcz36_4,hfz36_0,hfz36_1,hfz36_2,hfz36_3,hfz36_4⟩:=y5_ BK3
       go_wp2_with (first|((with_reducible refine gate_builtin (b:= .append) (xs:=#[.tmp 53, .tmp 55]) rfl ?_);at_builtin;refine Kd.R_append k39 (w0:=w) w.heap.size rfl (.tmp 53) (.tmp 55) 22 39 (.agg #[(.string ⟨#[]⟩),(.string ⟨#[]⟩),(.int .i64 0),(.int .i64 0),(.int .i64 0)]) 56 rfl Try.underlying22 info39 rfl (by decide) (by omega) u8 x8_1 (⟨((⟨#[110]⟩:ByteArray)++t1),x4001_8,(⟨(wrap64 (2+(Int.tmod (wrap64 (a0)) 20))),0,0⟩:S37)⟩:S39) [.string ((⟨#[110]⟩:ByteArray)++t1), .string x4001_8, .int .i64 (wrap64 (2+(Int.tmod (wrap64 (a0)) 20))), .int .i64 0, .int .i64 0] (fun k_=>k_≠gb3) (fun _=>False) rfl rfl ?aP (fun _ hk=>hk.elim) ?aF ?aO ?aB ?aS ?aL ?_;(case aP=>exact k39_mkM _ _ _ (⟨((⟨#[110]⟩:ByteArray)++t1),x4001_8,(⟨(wrap64 (2+(Int.tmod (wrap64 (a0)) 20))),0,0⟩:S37)⟩:S39));(case aB=>exact (zl1_ HB GE3));(case aF=>exact (fun k_ hk=>Kd.freshB (g:=gb3) (o:= .cells #[.string ((⟨#[110]⟩:ByteArray)++t1), .string x4001_8, .int .i64 (wrap64 (2+(Int.tmod (wrap64 (a0)) 20))), .int .i64 0, .int .i64 0] 39 (0,0)) (zb_ BK3) k_ hk));(case aO=>exact (zr_ HO_8));(case aS=>exact (below_size (zl1_ HB GE3)));(case aL=>have:=LMc35.out;omega);intro v17 w37 ho hb hg hat;rw [←Ny16.out] at ho;have n0_:=am_ (blk_grown (g:=gb3) (o:= .cells #[.string ((⟨#[110]⟩:ByteArray)++t1), .string x4001_8, .int .i64 (wrap64 (2+(Int.tmod (wrap64 (a0)) 20))), .int .i64 0, .int .i64 0] 39 (0,0)) (zb_ BK3) hg (Kd.R_away HO_8.out (fun _ hk=>hk)));have n1_:=am_ (hb);have n2_:=am_ (ho);clear BK3;clear HB;clear HO_8;have BK3:=n0_;have HB:=n1_;have HO18:=n2_;clear n0_ n1_ n2_;clear ho hb hg hat))
       go_roundg kj15
       case measure=>have:=HK1.out;have:=HJ8.out;have:=HJ15.out;omega
       case rel=>exact ⟨(y16),(wrap64 (x9_1+1)),(by first|rfl|(simp;done)|(simp [*];done)),H',⟨by have:=HK1.out;have:=HJ8.out;have:=HJ15.out;omega⟩,⟨by (with_reducible repeat (first|apply Kd.R_alloc|apply Kd.R_drewN|apply Kd.R_drew));exact Kd.R_mono HO18.out (fun _ hk=>trivial)⟩,⟨zl1_ HB GE3⟩⟩
noncomputable def law11_WantCircle.Pure:Prop:= ∀(a0:Int) (a1:Bool) (a2:Bool),(Lit.int .u8 a0).wf=true→ ∃k,law11_WantCircle.f k a0 a1 a2=some true
theorem law11_WantCircle.walk (P:law11_WantCircle.Pure) (a0:Int) (a1:Bool) (a2:Bool) (w:World) (w0:(Lit.int .u8 a0).wf=true):
  Calls Try.prog 6 #[.int .u8 a0, .bool a1, .bool a2] w fun e w'=>e= .returned (.bool true)∧Below w.heap.size w w':=by
 obtain ⟨k,h⟩:=P a0 a1 a2 w0
 refine (law11_WantCircle.calls k a0 a1 a2 true w h).mono ?_
 rintro e w' ⟨rfl,hd⟩
 exact ⟨rfl,hd⟩

end Go.Proofs.Ytahidkjncljkaaa.Print

namespace Go.Proofs.Ytahidkjncljkaaa.Print
open Go.RowKit Go.Proofs.YtahidkjncljkaaaW.PrintWords Go.Proofs.YtahidkjncljkaaaW.PrintLast
theorem wplace_eq (l:List Want) (n:ByteArray):wplace l n=wfnd l n:=rfl
theorem wmay_eq (w:Want):wmay w=mayW w:=by
 unfold wmay mayW
 rw [Bool.eq_iff_iff,decide_eq_true_iff,decide_eq_true_iff,and_assoc]
theorem wfnd_at {pre ws:List Want} {w:Want}:wfnd (pre++w::ws) w.f0=pre.length↔lookW pre w.f0=none:=by
  obtain ⟨x,hx⟩: ∃x,lookW (pre++w::ws) w.f0=some x:=by
    cases h:lookW (pre++w::ws) w.f0 with
    |some x=>exact ⟨x,rfl⟩
    |none=>exact absurd rfl (lookW_none.1 h w (by simp))
  obtain ⟨j,h1,h2,h3,h4,h5⟩:=wfnd_some hx
  rw [h2]
  have hw:(pre++w::ws).getD pre.length zWant=w:=by rw [List.getD_eq_getElem?_getD];simp
  have hj:j≤pre.length:=by
    by_cases c:j≤pre.length
    · exact c
    exact absurd (by rw [hw]) (h5 pre.length (by omega))
  rw [lookW_none]
  constructor
  · intro e y hy q
    obtain ⟨m,hm,rfl⟩:=List.getElem_of_mem hy
    refine h5 m (by omega) ?_
    rw [List.getD_eq_getElem?_getD,List.getElem?_append_left hm,List.getElem?_eq_getElem hm]
    exact q
  intro q
  by_cases c:j=pre.length
  · rw [c]
  have hlt:j<pre.length:=by omega
  refine absurd ?_ (q pre[j] (List.getElem_mem hlt))
  rw [List.getD_eq_getElem?_getD,List.getElem?_append_left hlt,List.getElem?_eq_getElem hlt] at h3
  rw [show pre[j]=x from h3]
  exact h4
theorem wnames_ph1 {l:List Want}: ∀(ws pre:List Want),pre++ws=l→wnames l ws pre.length=ph1 pre ws
  |[],pre,_=>rfl
  | w :: ws, pre, h => by
    unfold wnames ph1
    rw [wmay_eq,wplace_eq]
    by_cases c:mayW w=true
    rotate_left
    · rw [if_neg c,if_neg c]
    rw [if_pos c,if_pos c]
    by_cases d:lookW pre w.f0=none
    · rw [if_pos (by rw [← h]; exact wfnd_at.2 d), if_neg (by rw [d]; simp)]
      have:=wnames_ph1 (l:=l) ws (pre++ [w]) (by rw [←h];simp)
      rwa [List.length_append,List.length_singleton] at this
    rw [if_neg (by rw [←h];exact fun q=>d (wfnd_at.1 q)),if_pos]
    cases e:lookW pre w.f0 with
    |none=>exact absurd e d
    |some _=>rfl
theorem wnames_eq (l:List Want):wnames l l 0=ph1 [] l:=wnames_ph1 l [] rfl
theorem wloose_eq (l:List Want):wloose l=noPar l:=by
 funext w
 unfold wloose noPar
 rw [wplace_eq,Bool.eq_iff_iff]
 simp [wfnd_neg]
structure GoodD (l:List Want) (f:ByteArray→Int):Prop where
 or: ∀n,f n=0∨(0<depR l n∧f n=depR l n)
theorem lookW_self {l:List Want} (hn:(l.map (·.f0)).Nodup) {w:Want} (hw:w∈l):lookW l w.f0=some w:=by
  unfold lookW
  induction l with
  |nil=>cases hw
  | cons x l ih =>
    rw [List.map_cons,List.nodup_cons] at hn
    rw [List.find?_cons]
    by_cases e:x.f0=w.f0
    · rw [decide_eq_true e]
      rcases List.mem_cons.1 hw with rfl|hw
      · rfl
      exact absurd (e▸List.mem_map_of_mem hw) hn.1
    rw [decide_eq_false e]
    rcases List.mem_cons.1 hw with rfl|hw
    · exact absurd rfl e
    exact ih hn.2 hw
theorem depR_up {l:List Want} (hp:ParW l) {w:Want} (hx:lookW l w.f0=some w) (h:w.f1=⟨#[]⟩∨0<depR l w.f1):depR l w.f0=depR l w.f1+1:=by
  have c: ∃us,ChainW l w.f1 us:=by
    by_cases c: ∃us,ChainW l w.f1 us
    · exact c
    rcases h with h|h
    · exact ⟨[],by rw [h];exact chainW_nil hp.root⟩
    rw [depR_none hp (fun us k=>c ⟨us,k⟩)] at h;omega
  obtain ⟨us,c⟩:=c
  rw [depR_chain hp c,depR_chain hp (chainW_cons hx c),List.length_cons]
  omega
theorem small_dep {l:List Want} (hl:l.length≤1000) (hp:ParW l) (n:ByteArray) (h:0<depR l n):wrap64 (depR l n+1)=depR l n+1:=by
 have:=depR_le hp n
 exact w64 (by omega) (by omega)
theorem fstep_at {l:List Want} (hl:l.length≤1000) (hp:ParW l) (hn:(l.map (·.f0)).Nodup) {f:ByteArray→Int} (G:GoodD l f) {w:Want} (hw:w∈l) (n:ByteArray):fstep f w n=f n∨(0<depR l n∧fstep f w n=depR l n):=by
  have hx:=lookW_self hn hw
  unfold fstep
  by_cases e:w.f1=⟨#[]⟩
  · rw [if_pos e]
    unfold updM
    by_cases c:n=w.f0
    rotate_left
    · rw [if_neg c];exact .inl rfl
    rw [if_pos c,c]
    have:=depR_up hp hx (.inl e)
    rw [e,depR_root hp] at this
    exact .inr ⟨by omega,by omega⟩
  rw [if_neg e]
  by_cases d:f w.f1>0
  rotate_left
  · rw [if_neg d];exact .inl rfl
  rw [if_pos d]
  unfold updM
  by_cases c:n=w.f0
  rotate_left
  · rw [if_neg c];exact .inl rfl
  rw [if_pos c,c]
  have g:=G.or w.f1
  have g':0<depR l w.f1∧f w.f1=depR l w.f1:=g.resolve_left (by omega)
  rw [g'.2,small_dep hl hp _ g'.1,depR_up hp hx (.inr g'.1)]
  exact .inr ⟨by omega,rfl⟩
theorem fstep_good {l:List Want} (hl:l.length≤1000) (hp:ParW l) (hn:(l.map (·.f0)).Nodup) {f:ByteArray→Int} (G:GoodD l f) {w:Want} (hw:w∈l):GoodD l (fstep f w):=⟨fun n=>by
  rcases fstep_at hl hp hn G hw n with h|h
  · rw [h];exact G.or n
  exact .inr h⟩
theorem fstep_keep {l:List Want} (hl:l.length≤1000) (hp:ParW l) (hn:(l.map (·.f0)).Nodup) {f:ByteArray→Int} (G:GoodD l f) {w:Want} (hw:w∈l) {n:ByteArray} (h:0<depR l n) (q:f n=depR l n):fstep f w n=depR l n:=by
  rcases fstep_at hl hp hn G hw n with h|h
  · rw [h,q]
  exact h.2
theorem fstep_hit {l:List Want} (hl:l.length≤1000) (hp:ParW l) (hn:(l.map (·.f0)).Nodup) {f:ByteArray→Int} (G:GoodD l f) {w:Want} (hw:w∈l) (h:0<depR l w.f0) (q:0<depR l w.f1→f w.f1=depR l w.f1):fstep f w w.f0=depR l w.f0:=by
  have hx:=lookW_self hn hw
  obtain ⟨h1,h2,h3⟩:=depR_some hp hx h
  unfold fstep
  by_cases e:w.f1=⟨#[]⟩
  · rw [if_pos e]
    unfold updM
    rw [if_pos rfl,h1,e,depR_root hp]
    rfl
  have d:=h3 e
  rw [if_neg e,if_pos (by rw [q d];exact d)]
  unfold updM
  rw [if_pos rfl,q d,small_dep hl hp _ d,h1]
theorem fround_all {l:List Want} (hl:l.length≤1000) (hp:ParW l) (hn:(l.map (·.f0)).Nodup): ∀(ws:List Want) (f:ByteArray→Int),(∀w∈ws,w∈l)→GoodD l f→GoodD l (ws.foldl fstep f)∧(∀n,0<depR l n→f n=depR l n→ws.foldl fstep f n=depR l n)∧
    ∀w∈ws,0<depR l w.f0→(0<depR l w.f1→f w.f1=depR l w.f1)→ws.foldl fstep f w.f0=depR l w.f0
  |[],f,_,G=>⟨G,fun _ _ h=>h,fun w hw=>by cases hw⟩
  | x :: ws, f, hs, G => by
    have hx:=hs x (by simp)
    obtain ⟨a,b,c⟩:=fround_all hl hp hn ws (fstep f x) (fun w hw=>hs w (by simp [hw])) (fstep_good hl hp hn G hx)
    rw [List.foldl_cons]
    refine ⟨a,fun n h q=>b n h (fstep_keep hl hp hn G hx h q),fun w hw h q=> ?_⟩
    rcases List.mem_cons.1 hw with rfl|hw
    · exact b _ h (fstep_hit hl hp hn G hx h q)
    exact c w hw h (fun d=>fstep_keep hl hp hn G hx d (q d))
theorem frounds_all {l:List Want} (hl:l.length≤1000) (hp:ParW l) (hn:(l.map (·.f0)).Nodup): ∀(m r:Nat) (f:ByteArray→Int),GoodD l f→(∀n,0<depR l n→depR l n≤r→f n=depR l n)→GoodD l (frounds l m f)∧ ∀n,0<depR l n→depR l n≤(r+m:Nat)→frounds l m f n=depR l n
  |0,r,f,G,h=>⟨G,h⟩
  | m + 1, r, f, G, h => by
    obtain ⟨a,b,c⟩:=fround_all hl hp hn l f (fun _ h=>h) G
    have k:=frounds_all hl hp hn m (r+1) (fround l f) a (fun n d e=>by
      cases hx:lookW l n with
      |none=>rw [depR_absent hp hx] at d;omega
      | some x =>
        obtain ⟨hm,hf⟩:=lookW_mem hx
        subst hf
        obtain ⟨h1,h2,h3⟩:=depR_some hp hx d
        exact c x hm d (fun d2=>h _ d2 (by omega)))
    refine ⟨k.1,fun n d e=>k.2 n d (by omega)⟩
theorem fillR_eq {l:List Want} (hl:l.length≤1000) (hp:ParW l) (hn:(l.map (·.f0)).Nodup) (n:ByteArray):fillR l n=if 0<depR l n then depR l n else 0:=by
  obtain ⟨a,b⟩:=frounds_all hl hp hn l.length 0 (fun _=>0) ⟨fun _=> .inl rfl⟩ (fun n d e=>by omega)
  show frounds l l.length _ n=_
  by_cases d:0<depR l n
  · rw [if_pos d]
    exact b n d (by have:=depR_le hp n;omega)
  rw [if_neg d]
  rcases a.or n with h|h
  · exact h
  exact absurd h.1 d
theorem sums_l1 {l:List Want} (hl:l.length≤120) (hm: ∀w∈l,MayP w.f2) {i:Nat} (hi:i<l.length) {r:Int} (hr:LeP (sumW l l[i].f0) l[i].f2→Ev (fun k=>want_list_sums.l0 k l (l.length:Int) ((i+1:Nat):Int) l) r) (hb: ¬LeP (sumW l l[i].f0) l[i].f2→r=11):
    ∀ (d j : Nat) (acc : List Vec), l.length - j = d → j ≤ l.length → acc.length ≤ j → UptoV j (⟨(vecByF (fun x y => wrap64 (x + y)) acc 0 0 0).1, (vecByF (fun x y => wrap64 (x + y)) acc 0 0 0).2.1, (vecByF (fun x y => wrap64 (x + y)) acc 0 0 0).2.2⟩ : Vec) → sumGo l[i].f0 (l.drop j) (⟨(vecByF (fun x y => wrap64 (x + y)) acc 0 0 0).1, (vecByF (fun x y => wrap64 (x + y)) acc 0 0 0).2.1, (vecByF (fun x y => wrap64 (x + y)) acc 0 0 0).2.2⟩ : Vec) = sumW l l[i].f0 →
      Ev (fun k=>want_list_sums.l1 k acc l (l.length:Int) (i:Int) l (l.length:Int) (j:Int) l l[i].f0 l[i].f1 l[i].f2.f0 l[i].f2.f1 l[i].f2.f2) r
  | 0, j, acc, hd, hj, ha, hv, hs => by
    rw [List.drop_of_length_le (by omega)] at hs
    unfold sumGo at hs
    refine Ev.step (fun k=>want_list_sums.l1.eq_2 (k:=k) ..) ?_
    refine Ev.congr (fun k=>by rw [if_neg (by omega),show vec_Add.f acc=some (vecByF (fun x y=>wrap64 (x+y)) acc 0 0 0) from rfl,Option.bind_some,vec_Le_eq,Option.bind_some,hs,nx64 hi (by omega)]) ?_
    by_cases c:LeP (sumW l l[i].f0) l[i].f2
    · exact Ev.congr (fun k=>if_pos (decide_eq_true c)) (hr c)
    rw [hb c]
    exact Ev.congr (fun k=>if_neg (by rw [decide_eq_true_iff];exact c)) (Ev.now _)
  | d + 1, j, acc, hd, hj, ha, hv, hs => by
    have hlt:j<l.length:=by omega
    rw [List.drop_eq_getElem_cons hlt] at hs
    unfold sumGo at hs
    refine Ev.step (fun k=>want_list_sums.l1.eq_2 (k:=k) ..) ?_
    rw [rd_wantN l hlt,nx64 hlt (by omega)]
    refine Ev.congr (fun k=>by rw [if_pos (by omega),if_pos (by omega),if_pos (by omega)]) ?_
    by_cases c:l[j].f1=l[i].f0
    rotate_left
    · rw [if_neg c] at hs
      refine Ev.congr (fun k=>if_neg (fun q=>c (nm_inj.1 q))) ?_
      exact sums_l1 hl hm hi hr hb d (j+1) acc (by omega) (by omega) (by omega) (uptoV_succ hv) hs
    rw [if_pos c] at hs
    refine Ev.congr (fun k=>by rw [if_pos (nm_inj.2 c),if_pos (by omega)]) ?_
    have hu:=hm _ (List.getElem_mem hlt)
    have e:(⟨(vecByF (fun x y=>wrap64 (x+y)) (acc++ [(⟨l[j].f2.f0,l[j].f2.f1,l[j].f2.f2⟩:Vec)]) 0 0 0).1,(vecByF (fun x y=>wrap64 (x+y)) (acc++ [(⟨l[j].f2.f0,l[j].f2.f1,l[j].f2.f2⟩:Vec)]) 0 0 0).2.1,(vecByF (fun x y=>wrap64 (x+y)) (acc++ [(⟨l[j].f2.f0,l[j].f2.f1,l[j].f2.f2⟩:Vec)]) 0 0 0).2.2⟩:Vec)=vadd ⟨(vecByF (fun x y=>wrap64 (x+y)) acc 0 0 0).1,(vecByF (fun x y=>wrap64 (x+y)) acc 0 0 0).2.1,(vecByF (fun x y=>wrap64 (x+y)) acc 0 0 0).2.2⟩ l[j].f2:=by
      rw [vecByF_snoc]
      have a:=hv .cpu;have b:=hv .mem;have d:=hv .pods
      have a':=hu .cpu;have b':=hu .mem;have d':=hu .pods
      simp only [Comp.of] at a b d a' b' d'
      have e1:(j:Int)<120:=by omega
      have u1:wrap64 ((vecByF (fun x y=>wrap64 (x+y)) acc 0 0 0).1+l[j].f2.f0)=_:=w64 (by omega) (by omega)
      have u2:wrap64 ((vecByF (fun x y=>wrap64 (x+y)) acc 0 0 0).2.1+l[j].f2.f1)=_:=w64 (by omega) (by omega)
      have u3:wrap64 ((vecByF (fun x y=>wrap64 (x+y)) acc 0 0 0).2.2+l[j].f2.f2)=_:=w64 (by omega) (by omega)
      rw [u1,u2,u3]
      rfl
    refine sums_l1 hl hm hi hr hb d (j+1) _ (by omega) (by omega) (by rw [List.length_append,List.length_singleton];omega) ?_ ?_
    · rw [e];exact uptoV_add hv hu
    rw [e];exact hs
theorem sums_l0 {l:List Want} (hl:l.length≤120) (hm: ∀w∈l,MayP w.f2): ∀(d i:Nat),l.length - i=d→i≤l.length→Ev (fun k=>want_list_sums.l0 k l (l.length:Int) (i:Int) l) (if (l.drop i).any (badSum l)=true then 11 else 0)
  | 0, i, hd, hi => by
    rw [List.drop_of_length_le (by omega)]
    exact Ev.step (fun k=>want_list_sums.l0.eq_2 (k:=k) ..) (Ev.congr (fun k=>if_neg (by omega)) (Ev.now _))
  | d + 1, i, hd, hi => by
    have hlt:i<l.length:=by omega
    have next:=sums_l0 hl hm d (i+1) (by omega) (by omega)
    rw [List.drop_eq_getElem_cons hlt,List.any_cons]
    refine Ev.step (fun k=>want_list_sums.l0.eq_2 (k:=k) ..) ?_
    rw [rd_wantN l hlt]
    refine Ev.congr (fun k=>by rw [if_pos (by omega),if_pos (by omega),if_pos (by omega)]) ?_
    refine sums_l1 hl hm hlt (fun c=> ?_) (fun c=> ?_) l.length 0 [] (by omega) (by omega) (by simp) (fun c=>by cases c<;>exact ⟨Int.le_refl _,by simp [Comp.of,vecByF]⟩) (by rw [List.drop_zero];rfl)
    · rw [show badSum l l[i] = false from by unfold badSum; rw [decide_eq_true c]; rfl, Bool.false_or]
      exact next
    rw [show badSum l l[i]=true from by unfold badSum;rw [decide_eq_false c];rfl,Bool.true_or,if_pos rfl]
theorem want_Check_ev {l:List Want} (hs:smallW l):Ev (fun k=>want_Check.f k l) (checkR l):=by
  classical
  unfold want_Check.f checkR
  by_cases c0:120<l.length
  · rw [if_pos (show l.length > 120 from c0)]
    exact Ev.congr (fun k=>if_pos c0) (Ev.now _)
  refine Ev.congr (fun k=>by rw [if_neg c0,if_pos hs,wnames_eq]) ?_
  rw [if_neg (show¬l.length>120 from c0)]
  by_cases c1:ph1 [] l=0
  rotate_left
  · rw [if_pos c1]
    exact Ev.congr (fun k=>if_neg c1) (Ev.now _)
  rw [if_neg (show¬(ph1 [] l≠0) from fun q=>q c1)]
  refine Ev.congr (fun k=>by rw [if_pos c1,wloose_eq]) ?_
  by_cases c2:l.any (noPar l)=true
  · rw [if_pos c2]
    exact Ev.congr (fun k=>if_pos c2) (Ev.now _)
  rw [if_neg c2]
  refine Ev.congr (fun k=>if_neg c2) ?_
  have hm:=ph1_ok c1
  have hn:(l.map (·.f0)).Nodup:=by
    have:=ph1_nodup c1 (by simp)
    rwa [List.nil_append] at this
  have hp:ParW l:=⟨fun w hw=>(mayW_iff.1 (hm w hw)).1.1,fun w hw e=>by
    have q:=any_false.1 c2 w hw
    unfold noPar at q
    rw [decide_eq_false_iff_not] at q
    cases hx:lookW l w.f1 with
    |none=>exact absurd ⟨e,hx⟩ q
    |some x=>exact ⟨x,rfl⟩⟩
  have ef:l.any (wflat l)=l.any (fun w=>decide (depR l w.f0<1)):=by
    congr 1
    funext w
    unfold wflat
    rw [fillR_eq (by omega) hp hn,Bool.eq_iff_iff,decide_eq_true_iff,decide_eq_true_iff]
    by_cases d:0<depR l w.f0
    · rw [if_pos d];omega
    rw [if_neg d];omega
  rw [ef]
  by_cases c3:l.any (fun w=>decide (depR l w.f0<1))=true
  · rw [if_pos c3]
    exact Ev.congr (fun k=>if_pos c3) (Ev.now _)
  rw [if_neg c3]
  refine Ev.congr (fun k=>if_neg c3) ?_
  have h:=sums_l0 (by omega) (fun w hw=>(mayW_iff.1 (hm w hw)).2) l.length 0 (by omega) (by omega)
  rw [List.drop_zero] at h
  exact h
theorem depR_pos {l:List Want} (h:TreeW l) (n:ByteArray):0≤depR l n:=by
 cases hx:lookW l n with
 |none=>rw [depR_absent h.par hx];omega
 |some x=>obtain ⟨hm,rfl⟩:=lookW_mem hx;have:=h.dep x hm;omega
theorem fillR_tree {l:List Want} (h:TreeW l) (n:ByteArray):fillR l n=depR l n:=by
  rw [fillR_eq (by have:=h.len;omega) h.par h.nodup]
  have:=depR_pos h n
  by_cases d:0<depR l n
  · rw [if_pos d]
  rw [if_neg d];omega
theorem want_Depth_tree {l:List Want} (h:TreeW l) (hs:smallW l) {n:ByteArray} (hn:n.size≤1000000):want_Depth.f l n=some (depR l n):=by
 classical
 unfold want_Depth.f
 rw [if_pos ⟨by have:=h.len;omega,hs,hn⟩,fillR_tree h]
end Go.Proofs.Ytahidkjncljkaaa.Print

namespace Go.Proofs.Ytahidkjncljkaaa.Print
open Go.RowKit Go.Proofs.YtahidkjncljkaaaW.PrintWords Go.Proofs.YtahidkjncljkaaaW.PrintLast Go.Proofs.YtahidkjncljkaaaW.PrintMore
attribute [local go_sem] max2_int min2_int max_two min_two max_three min_three max_four min_four

theorem eqA37 (d:Nat) (w:World) (x0 y0:Int) (x1 y1:Int) (x2 y2:Int):
  (Op.equalIn (d+2) 37 (.agg #[.int .i64 x0, .int .i64 x1, .int .i64 x2]) (.agg #[.int .i64 y0, .int .i64 y1, .int .i64 y2])).run Try.prog w= .ok (x0==y0 && (x1==y1 && (x2==y2))) w:=by
 refine eqA_of Try.underlying37 (by kernel_rfl) ?_
 refine eqf_cons (by rfl) (by go_simp;rfl) (by go_simp;rfl) (by go_simp) ?_
 refine eqf_cons (by rfl) (by go_simp;rfl) (by go_simp;rfl) (by go_simp) ?_
 exact eqf_last (by rfl) (by go_simp;rfl) (by go_simp;rfl) (by go_simp)
theorem eqA39 (d:Nat) (w:World) (x0 y0:ByteArray) (x1 y1:ByteArray) (x2 y2:Int) (x3 y3:Int) (x4 y4:Int):
  (Op.equalIn (d+3) 39 (.agg #[.string x0, .string x1, .int .i64 x2, .int .i64 x3, .int .i64 x4]) (.agg #[.string y0, .string y1, .int .i64 y2, .int .i64 y3, .int .i64 y4])).run Try.prog w= .ok (x0.toList==y0.toList && (x1.toList==y1.toList && ((x2==y2 && (x3==y3 && (x4==y4)))))) w:=by
 refine eqA_of Try.underlying39 (by kernel_rfl) ?_
 refine eqf_cons (by rfl) (by go_simp;rfl) (by go_simp;rfl) (by go_simp) ?_
 refine eqf_cons (by rfl) (by go_simp;rfl) (by go_simp;rfl) (by go_simp) ?_
 exact eqf_last (by rfl) (by go_simp) (by go_simp) (eqA37 (d+0) w _ _ _ _ _ _)
attribute [local go_sem high] eqA39
end Go.Proofs.Ytahidkjncljkaaa.Print

namespace Go.Proofs.Ytahidkjncljkaaa.Print
open Go.RowKit Go.Proofs.YtahidkjncljkaaaW.PrintWords Go.Proofs.YtahidkjncljkaaaW.PrintLast
theorem bef_fill {l:List Want} (h:TreeW l) {a b:Want}:cmpW (fillR l) a.f0 b.f0<0↔bef l a b=true:=by
 rw [cmpW_neg,fillR_tree h,fillR_tree h,bef_iff]
theorem topIs_topR {l:List Want} (h:TreeW l):TopIs l (topR l):=by
 refine ⟨topR_perm l,(topR_sorted h.nodup).imp fun {a b} q k=> ?_⟩
 rw [bef_fill h] at k
 have:=bef_trans q k
 rw [bef_irrefl] at this
 cases this
theorem topIs_unique {l t:List Want} (h:TreeW l) (k:TopIs l t):t=topR l:=by
 refine top_unique h.nodup k.1 ?_
 have hn:t.Pairwise (fun a b=>a.f0≠b.f0):=by
  have:=(k.1.map (·.f0)).nodup_iff.2 h.nodup
  exact List.pairwise_map.1 this
 refine (k.2.and hn).imp fun {a b} q=> ?_
 have e:bef l b a=false:=by
  rw [←Bool.not_eq_true,←bef_fill h]
  exact q.1
 exact bef_total e (fun e=>q.2 e.symm)
theorem want_Top_tree {l:List Want} (h:TreeW l) (hs:smallW l):want_Top.f l=some (topR l):=by
 classical
 unfold want_Top.f
 have hh:l.length≤1000∧smallW l∧ ∃t,TopIs l t∧ ∀t',TopIs l t'→t'=t:=⟨by have:=h.len;omega,hs,topR l,topIs_topR h,fun t' k=>topIs_unique h k⟩
 rw [dif_pos hh]
 exact congrArg some (topIs_unique h hh.2.2.choose_spec.1)
def exW:List Want:=[⟨⟨#[98]⟩,⟨#[97]⟩,⟨0,0,0⟩⟩,⟨⟨#[97]⟩,⟨#[]⟩,⟨0,0,0⟩⟩]
theorem exW_tree:TreeW exW:=checkR_tree (.inl (by decide))
theorem exW_small:smallW exW:=by
 intro w hw
 unfold exW at hw
 simp only [List.mem_cons,List.not_mem_nil,or_false] at hw
 rcases hw with rfl|rfl<;>exact ⟨by decide,by decide⟩
theorem nil_small:smallW ([]:List Want):=fun w hw=>by cases hw
theorem exW_top:topR exW=[⟨⟨#[97]⟩,⟨#[]⟩,⟨0,0,0⟩⟩,⟨⟨#[98]⟩,⟨#[97]⟩,⟨0,0,0⟩⟩]:=by kernel_rfl
theorem awake11_ev:Ev (fun k=>law11_awake.f k) true:=by
 unfold law11_awake.f
 simp only [Option.bind_some]
 have h1:=(want_Top_tree exW_tree exW_small).trans (congrArg some exW_top)
 have h2:=(want_Depth_tree exW_tree exW_small (n:=⟨#[98]⟩) (by decide)).trans (congrArg some (show depR exW ⟨#[98]⟩=2 from by decide))
 rw [show exW=[⟨⟨#[98]⟩,⟨#[97]⟩,⟨0,0,0⟩⟩,⟨⟨#[97]⟩,⟨#[]⟩,⟨0,0,0⟩⟩] from rfl] at h1 h2
 rw [h1]
 simp only [Option.bind_some]
 refine Ev.bind (want_Check_ev nil_small) ?_
 rw [show checkR []=0 from by decide,show law1_Num.f 0=some 0 from rfl]
 simp only [Option.bind_some]
 rw [h2]
 exact Ev.const (by kernel_rfl)
end Go.Proofs.Ytahidkjncljkaaa.Print

namespace Go.Proofs.Ytahidkjncljkaaa.Print
open Go.RowKit Go.Proofs.YtahidkjncljkaaaW.PrintWords Go.Proofs.YtahidkjncljkaaaW.PrintLast Go.Proofs.YtahidkjncljkaaaW.PrintMore
theorem wc_u8 {x:Int} (h:(Lit.int .u8 x).wf=true):0≤x∧x≤255:=by
 simp only [Lit.wf,Bool.and_eq_true,decide_eq_true_eq] at h
 obtain ⟨h1,h2⟩:=h
 exact ⟨h1,h2⟩
def digB (i:Nat):ByteArray:=if i<10 then ⟨#[UInt8.ofNat (48+i)]⟩ else ⟨#[UInt8.ofNat (48+i / 10),UInt8.ofNat (48+i % 10)]⟩
def nameC (i:Nat):ByteArray:=(⟨#[110]⟩:ByteArray)++digB i
def parC (k:Nat) (c u:Bool) (i:Nat):ByteArray:=if i+1=k then (if u=true then ⟨#[110,111,110,101]⟩ else if c=true then ⟨#[110,48]⟩ else ⟨#[]⟩) else nameC (i+1)
def wantC (k:Nat) (c u:Bool) (i:Nat):Want:=⟨nameC i,parC k c u i,⟨k,0,0⟩⟩
def circL (k:Nat) (c u:Bool):List Want:=(List.range k).map (wantC k c u)
def digOk (i:Nat):Bool:=decide (r1_Digits.f 8 (i:Int)=some (digB i)) && decide (1+(digB i).size≤9223372036854775807)
def upB (p:Nat→Bool):Nat→Bool
 |0=>true
 |n+1=>p n && upB p n
theorem upB_all {p:Nat→Bool}: ∀{n i:Nat},upB p n=true→i<n→p i=true
  | n + 1, i, h, hi => by
    unfold upB at h
    rw [Bool.and_eq_true] at h
    by_cases e:i=n
    · rw [e];exact h.1
    exact upB_all h.2 (by omega)
theorem dig_all:upB digOk 23=true:=by kernel_rfl
theorem dig_ev {i:Nat} (h:i<23):Ev (fun k=>r1_Digits.f k (i:Int)) (digB i)∧1+(digB i).size≤9223372036854775807:=by
 have:=upB_all dig_all h
 unfold digOk at this
 rw [Bool.and_eq_true,decide_eq_true_iff,decide_eq_true_iff] at this
 exact ⟨Ev.of (g:=fun k=>r1_Digits.f k (i:Int)) (fun k=>r1_Digits.mono _ k) (k:=8) this.1,this.2⟩
def circOk (j:Nat):Bool:=
 decide (checkR (circL (j+2) true true)=2) && decide (checkR (circL (j+2) false true)=2) && decide (checkR (circL (j+2) true false)=10) && decide (checkR (circL (j+2) false false)=0) &&
 upB (fun i=>decide (depR (circL (j+2) false false) (nameC i)=((j+2:Nat):Int) - i)) (j+2) && decide (depR (circL (j+2) false false) ⟨#[110,111,110,101]⟩=0)
theorem circ_all:upB circOk 20=true:=by kernel_rfl
theorem circ_small {k:Nat} (hk:k≤100) (c u:Bool):smallW (circL k c u):=by
  have hd: ∀i,(nameC i).size≤1000000:=fun i=>by
    have:(nameC i).size≤3:=by
      show (nameC i).data.size≤3
      unfold nameC digB
      split<;>simp [ByteArray.size]
    omega
  intro w hw
  unfold circL at hw
  obtain ⟨i,_,rfl⟩:=List.mem_map.1 hw
  refine ⟨hd i, ?_⟩
  show (parC k c u i).size≤1000000
  unfold parC
  split
  rotate_left
  · exact hd _
  split
  · decide
  split<;>decide
theorem circ_take {k:Nat} {c u:Bool} {i:Nat} (h:i<k):(circL k c u).take (i+1)=(circL k c u).take i++ [wantC k c u i]:=by
 have hl:i<(circL k c u).length:=by unfold circL;simpa using h
 have e:(circL k c u)[i]=wantC k c u i:=by simp [circL]
 rw [take_next hl,e]
theorem circ_len (k:Nat) (c u:Bool):(circL k c u).length=k:=by unfold circL;simp
theorem circ_l0 {k:Nat} (hk:k≤21) {c u:Bool} {r:Bool} (hr:Ev (fun kk=>law11_WantCircle.l0 kk c u (k:Int) (circL k c u) (k:Int)) r): ∀(d i:Nat),k - i=d→i≤k→Ev (fun kk=>law11_WantCircle.l0 kk c u (k:Int) ((circL k c u).take i) (i:Int)) r
  | 0, i, hd, hi => by
    obtain rfl:i=k:=by omega
    rw [List.take_of_length_le (by rw [circ_len];omega)]
    exact hr
  | d + 1, i, hd, hi => by
    have hlt:i<k:=by omega
    have next:=circ_l0 hk hr d (i+1) (by omega) (by omega)
    rw [circ_take hlt] at next
    have hlen:((circL k c u).take i).length<2513169434916:=by rw [List.length_take,circ_len];omega
    have e1:wrap64 ((i:Int)+1)=((i+1:Nat):Int):=by rw [w64 (by omega) (by omega)];rfl
    have e2:wrap64 ((k:Int) - 1)=(k:Int) - 1:=w64 (by omega) (by omega)
    obtain ⟨d1,s1⟩:=dig_ev (i:=i) (by omega)
    obtain ⟨d2,s2⟩:=dig_ev (i:=i+1) (by omega)
    refine Ev.step (fun kk=>law11_WantCircle.l0.eq_2 (k:=kk) ..) (Ev.congr (fun kk=>if_pos (by omega)) ?_)
    refine Ev.bind d1 (Ev.congr (fun kk=>by rw [if_pos s1,e1]) ?_)
    refine Ev.bind d2 (Ev.congr (fun kk=>by rw [if_pos s2,e2]) ?_)
    by_cases hq:i+1=k
    rotate_left
    · have hz : ¬ (i : Int) = (k : Int) - 1 := by omega
      refine Ev.congr (fun kk=>if_neg hz) ?_
      refine Ev.step (fun kk=>law11_WantCircle.j1.eq_2 (k:=kk) ..) (Ev.congr (fun kk=>by rw [e2,if_neg hz]) ?_)
      refine Ev.step (fun kk=>law11_WantCircle.j2.eq_2 (k:=kk) ..) ?_
      unfold wantC parC at next
      rw [if_neg hq] at next
      refine Ev.congr (fun kk=>by rw [if_neg (by simp),e2,if_neg hz,if_pos hlen,e1]) ?_
      exact next
    have hz:(i:Int)=(k:Int) - 1:=by omega
    refine Ev.congr (fun kk=>if_pos hz) ?_
    refine Ev.step (fun kk=>law11_WantCircle.j1.eq_2 (k:=kk) ..) (Ev.congr (fun kk=>by rw [e2,if_pos hz]) ?_)
    refine Ev.step (fun kk=>law11_WantCircle.j2.eq_2 (k:=kk) ..) ?_
    unfold wantC parC at next
    rw [if_pos hq] at next
    cases c<;>cases u
    · refine Ev.congr (fun kk => by rw [if_neg (by simp), e2, if_pos hz, if_neg (by simp), if_pos hlen, e1]) ?_
      exact next
    · refine Ev.congr (fun kk => by rw [if_neg (by simp), e2, if_pos hz, if_pos rfl, if_pos hlen, e1]) ?_
      exact next
    · refine Ev.congr (fun kk => by rw [if_pos rfl, e2, if_pos hz, if_neg (by simp), if_pos hlen, e1]) ?_
      exact next
    refine Ev.congr (fun kk=>by rw [if_pos rfl,e2,if_pos hz,if_pos rfl,if_pos hlen,e1]) ?_
    exact next
theorem circ_awake:Ev (fun k=>(law11_awake.f k).bind fun t=>some t) true:=Ev.bind awake11_ev (Ev.now _)
theorem circ_l1 {k:Nat} (hk:k≤21) (ht:TreeW (circL k false false)) (hd: ∀i,i<k→depR (circL k false false) (nameC i)=(k:Int) - i) (h0:depR (circL k false false) ⟨#[110,111,110,101]⟩=0): ∀(d i:Nat),k - i=d→i≤k→Ev (fun kk=>law11_WantCircle.l1 kk (k:Int) (circL k false false) 0 (i:Int)) true
  | 0, i, hd', hi => by
    refine Ev.step (fun kk=>law11_WantCircle.l1.eq_2 (k:=kk) ..) (Ev.congr (fun kk=>by rw [if_neg (by omega),if_pos rfl,want_Depth_tree ht (circ_small (by omega) _ _) (by decide),h0,Option.bind_some,if_pos rfl]) ?_)
    exact circ_awake
  | d + 1, i, hd', hi => by
    have hlt:i<k:=by omega
    have next:=circ_l1 hk ht hd h0 d (i+1) (by omega) (by omega)
    have hrd:rd_T39 (circL k false false) (i:Int)=wantC k false false i:=by
      rw [rd_wantN _ (by rw [circ_len];exact hlt)]
      unfold circL
      simp
    have hs:(nameC i).size≤1000000:=by
      have:=(circ_small (k:=k) (by omega) false false) (wantC k false false i) (by unfold circL;exact List.mem_map_of_mem (by simpa using hlt))
      exact this.1
    refine Ev.step (fun kk=>law11_WantCircle.l1.eq_2 (k:=kk) ..) (Ev.congr (fun kk=> ?_) next)
    rw [if_pos (by omega),if_pos (by omega),if_pos (by rw [circ_len];omega),hrd,show (wantC k false false i).f0=nameC i from rfl,want_Depth_tree ht (circ_small (by omega) _ _) hs,hd i hlt,Option.bind_some,w64 (n:=(k:Int) - i) (by omega) (by omega),if_pos rfl,w64 (n:=(i:Int)+1) (by omega) (by omega)]
    rfl
theorem circ_end {k:Nat} (h2:2≤k) (hk:k≤21) (c u:Bool):Ev (fun kk=>law11_WantCircle.l0 kk c u (k:Int) (circL k c u) (k:Int)) true:=by
  have ok:=upB_all circ_all (i:=k - 2) (by omega)
  unfold circOk at ok
  rw [show k - 2+2=k by omega] at ok
  simp only [Bool.and_eq_true,decide_eq_true_iff] at ok
  obtain ⟨⟨⟨⟨⟨a1,a2⟩,a3⟩,a4⟩,a5⟩,a6⟩:=ok
  refine Ev.step (fun kk=>law11_WantCircle.l0.eq_2 (k:=kk) ..) (Ev.congr (fun kk=>if_neg (by omega)) ?_)
  refine Ev.bind (want_Check_ev (circ_small (by omega) c u)) ?_
  rw [show law1_Num.f (checkR (circL k c u))=some (checkR (circL k c u)) from rfl]
  refine Ev.congr (fun kk=>Option.bind_some ..) ?_
  cases u with
  | true =>
    refine Ev.congr (fun kk=>if_pos rfl) (Ev.congr (fun kk=>if_pos ?_) circ_awake)
    cases c
    · exact a2
    exact a1
  | false =>
    refine Ev.congr (fun kk=>if_neg (by simp)) ?_
    cases c with
    |true=>exact Ev.congr (fun kk=>if_pos rfl) (Ev.congr (fun kk=>if_pos a3) circ_awake)
    | false =>
      refine Ev.congr (fun kk=>if_neg (by simp)) ?_
      rw [a4]
      exact circ_l1 hk (checkR_tree (.inl a4)) (fun i hi=>by
        have:=upB_all a5 hi
        rw [decide_eq_true_iff] at this
        exact this) a6 k 0 (by omega) (by omega)
end Go.Proofs.Ytahidkjncljkaaa.Print
namespace Go.Proofs.Ytahidkjncljkaaa.Pure
open Go.RowKit Go.Proofs.Ytahidkjncljkaaa.Print Go.Proofs.YtahidkjncljkaaaW.PrintWords Go.Proofs.YtahidkjncljkaaaW.PrintLast
theorem WantCircle:law11_WantCircle.Pure:=by
 intro a0 c u h0
 have b0:=wc_u8 h0
 unfold law11_WantCircle.f
 have w0:wrap64 a0=a0:=w64 (by omega) (by omega)
 have e: ∃k:Nat,wrap64 (2+Int.tmod a0 20)=(k:Int)∧2≤k∧k≤21:=by
  have q:Int.tmod a0 20=a0 % 20:=Int.tmod_eq_emod_of_nonneg b0.1
  rw [q,w64 (by omega) (by omega)]
  exact ⟨(2+a0 % 20).toNat,by omega,by omega,by omega⟩
 obtain ⟨k,hk,k2,k21⟩:=e
 rw [w0,hk]
 exact Ev.rounds (circ_l0 k21 (circ_end k2 k21 c u) k 0 (by omega) (by omega))
end Go.Proofs.Ytahidkjncljkaaa.Pure

namespace Go.Proofs.Ytahidkjncljkaaa.Head
def signs:List Char:=(List.map Char.ofNat [104,97,114,110,101,115,115,32,52,48,100,98,98,98,100,57,102,99,56,49,51,57,52,102,98,101,100,54,48,53,102,48,101,50,51,100,52,101,50,55,97,52,48,52,98,97,49,55,57,48,56,57,54,99,56,100,54,100,100,54,56,102,97,52,102,101,49,48,50,99,55,57,32,99,117,116,32,97,116,32,100,111,111,114,107,101,101,112,101,114,47,100,111,111,114,107,101,101,112,101,114,108,97,119,49,49,46,87,97,110,116,65,108,108,32,100,111,111,114,107,101,101,112,101,114,47,100,111,111,114,107,101,101,112,101,114,108,97,119,49,49,46,87,97,110,116,77,97,100,101,32,100,111,111,114,107,101,101,112,101,114,47,100,111,111,114,107,101,101,112,101,114,108,97,119,49,49,46,87,97,110,116,84,111,112,32,100,111,111,114,107,101,101,112,101,114,47,100,111,111,114,107,101,101,112,101,114,108,97,119,49,49,46,87,97,110,116,67,105,114,99,108,101,32,100,111,111,114,107,101,101,112,101,114,47,100,111,111,114,107,101,101,112,101,114,108,97,119,49,49,46,87,97,110,116,83,117,109,115,32,100,111,111,114,107,101,101,112,101,114,47,100,111,111,114,107,101,101,112,101,114,108,97,119,49,57,46,84,114,105,97,108,67,117,116,115,32,100,111,111,114,107,101,101,112,101,114,47,100,111,111,114,107,101,101,112,101,114,108,97,119,49,56,46,80,108,97,110,65,108,108,32,100,111,111,114,107,101,101,112,101,114,47,100,111,111,114,107,101,101,112,101,114,108,97,119,49,56,46,80,108,97,110,77,97,100,101,32,100,111,111,114,107,101,101,112,101,114,47,100,111,111,114,107,101,101,112,101,114,108,97,119,49,56,46,80,108,97,110,76,101,97,100,115,32,100,111,111,114,107,101,101,112,101,114,47,100,111,111,114,107,101,101,112,101,114,108,97,119,49,56,46,80,108,97,110,69,109,112,116,121,32,100,111,111,114,107,101,101,112,101,114,47,100,111,111,114,107,101,101,112,101,114,108,97,119,49,56,46,80,108,97,110,79,114,100,101,114,32,100,111,111,114,107,101,101,112,101,114,47,100,111,111,114,107,101,101,112,101,114,108,97,119,49,56,46,80,108,97,110,70,114,101,115,104,32,100,111,111,114,107,101,101,112,101,114,47,100,111,111,114,107,101,101,112,101,114,108,97,119,49,56,46,80,108,97,110,78,111,110,101,32,100,111,111,114,107,101,101,112,101,114,47,100,111,111,114,107,101,101,112,101,114,108,97,119,49,56,46,80,108,97,110,67,108,97,115,104,32,100,111,111,114,107,101,101,112,101,114,47,100,111,111,114,107,101,101,112,101,114,108,97,119,49,56,46,80,108,97,110,87,105,100,101,32,100,111,111,114,107,101,101,112,101,114,47,100,111,111,114,107,101,101,112,101,114,108,97,119,50,51,46,65,112,112,108,121,65,108,108,32,100,111,111,114,107,101,101,112,101,114,47,100,111,111,114,107,101,101,112,101,114,108,97,119,50,51,46,65,112,112,108,121,77,97,100,101,32,100,111,111,114,107,101,101,112,101,114,47,100,111,111,114,107,101,101,112,101,114,108,97,119,50,51,46,65,112,112,108,121,65,103,97,105,110,32,100,111,111,114,107,101,101,112,101,114,47,100,111,111,114,107,101,101,112,101,114,108,97,119,50,51,46,65,112,112,108,121,69,110,100,115])
set_option maxRecDepth 100000 in
theorem word:Try.prog.initOrder=String.ofList signs:=by kernel_rfl
theorem list:Try.prog.initOrder.toList=signs:=by rw [word,String.toList_ofList]
theorem words_app: ∀(w r:List Char),(∀c∈w,c≠Char.ofNat 32)→wordsSigns (w++Char.ofNat 32::r)=w::wordsSigns r
  |[],r,_=>rfl
  | c :: w, r, h => by
    have hc:c≠Char.ofNat 32:=h c (by simp)
    have ih:=words_app w r (fun d hd=>h d (by simp [hd]))
    show wordsSigns (c::(w++Char.ofNat 32::r))=_
    rw [wordsSigns.eq_3 _ _ (fun q=>hc q),ih]
def w1:List Char:=[Char.ofNat 104,Char.ofNat 97,Char.ofNat 114,Char.ofNat 110,Char.ofNat 101,Char.ofNat 115,Char.ofNat 115]
def w2:List Char:=(List.map Char.ofNat [52,48,100,98,98,98,100,57,102,99,56,49,51,57,52,102,98,101,100,54,48,53,102,48,101,50,51,100,52,101,50,55,97,52,48,52,98,97,49,55,57,48,56,57,54,99,56,100,54,100,100,54,56,102,97,52,102,101,49,48,50,99,55,57])
def w3:List Char:=[Char.ofNat 99,Char.ofNat 117,Char.ofNat 116]
def rest:List Char:=(List.map Char.ofNat [97,116,32,100,111,111,114,107,101,101,112,101,114,47,100,111,111,114,107,101,101,112,101,114,108,97,119,49,49,46,87,97,110,116,65,108,108,32,100,111,111,114,107,101,101,112,101,114,47,100,111,111,114,107,101,101,112,101,114,108,97,119,49,49,46,87,97,110,116,77,97,100,101,32,100,111,111,114,107,101,101,112,101,114,47,100,111,111,114,107,101,101,112,101,114,108,97,119,49,49,46,87,97,110,116,84,111,112,32,100,111,111,114,107,101,101,112,101,114,47,100,111,111,114,107,101,101,112,101,114,108,97,119,49,49,46,87,97,110,116,67,105,114,99,108,101,32,100,111,111,114,107,101,101,112,101,114,47,100,111,111,114,107,101,101,112,101,114,108,97,119,49,49,46,87,97,110,116,83,117,109,115,32,100,111,111,114,107,101,101,112,101,114,47,100,111,111,114,107,101,101,112,101,114,108,97,119,49,57,46,84,114,105,97,108,67,117,116,115,32,100,111,111,114,107,101,101,112,101,114,47,100,111,111,114,107,101,101,112,101,114,108,97,119,49,56,46,80,108,97,110,65,108,108,32,100,111,111,114,107,101,101,112,101,114,47,100,111,111,114,107,101,101,112,101,114,108,97,119,49,56,46,80,108,97,110,77,97,100,101,32,100,111,111,114,107,101,101,112,101,114,47,100,111,111,114,107,101,101,112,101,114,108,97,119,49,56,46,80,108,97,110,76,101,97,100,115,32,100,111,111,114,107,101,101,112,101,114,47,100,111,111,114,107,101,101,112,101,114,108,97,119,49,56,46,80,108,97,110,69,109,112,116,121,32,100,111,111,114,107,101,101,112,101,114,47,100,111,111,114,107,101,101,112,101,114,108,97,119,49,56,46,80,108,97,110,79,114,100,101,114,32,100,111,111,114,107,101,101,112,101,114,47,100,111,111,114,107,101,101,112,101,114,108,97,119,49,56,46,80,108,97,110,70,114,101,115,104,32,100,111,111,114,107,101,101,112,101,114,47,100,111,111,114,107,101,101,112,101,114,108,97,119,49,56,46,80,108,97,110,78,111,110,101,32,100,111,111,114,107,101,101,112,101,114,47,100,111,111,114,107,101,101,112,101,114,108,97,119,49,56,46,80,108,97,110,67,108,97,115,104,32,100,111,111,114,107,101,101,112,101,114,47,100,111,111,114,107,101,101,112,101,114,108,97,119,49,56,46,80,108,97,110,87,105,100,101,32,100,111,111,114,107,101,101,112,101,114,47,100,111,111,114,107,101,101,112,101,114,108,97,119,50,51,46,65,112,112,108,121,65,108,108,32,100,111,111,114,107,101,101,112,101,114,47,100,111,111,114,107,101,101,112,101,114,108,97,119,50,51,46,65,112,112,108,121,77,97,100,101,32,100,111,111,114,107,101,101,112,101,114,47,100,111,111,114,107,101,101,112,101,114,108,97,119,50,51,46,65,112,112,108,121,65,103,97,105,110,32,100,111,111,114,107,101,101,112,101,114,47,100,111,111,114,107,101,101,112,101,114,108,97,119,50,51,46,65,112,112,108,121,69,110,100,115])
theorem parts:signs=w1++Char.ofNat 32::(w2++Char.ofNat 32::(w3++Char.ofNat 32::rest)):=by kernel_rfl
theorem behind: ∃r,behindMainWord (wordsSigns Try.prog.initOrder.toList)=w3::r:=by
 refine ⟨wordsSigns rest, ?_⟩
 rw [list,parts,words_app w1 _ (by decide),words_app w2 _ (by decide),words_app w3 _ (by decide)]
 generalize wordsSigns rest=r
 rfl
theorem strip (r:List (List Char)):stripLifts liftWords (w3::r)=([],w3::r):=by kernel_rfl
theorem not_carried (r:List (List Char)):((w3::r).head?==some "carried".toList)=false:=by kernel_rfl
theorem is_cut (r:List (List Char)):((w3::r).head?==some "cut".toList)=true:=by kernel_rfl
theorem not_gc:(w3== "gc".toList||w3== "spec".toList)=false:=by kernel_rfl
theorem cut_:(w3== "cut".toList)=true:=by kernel_rfl
theorem lifts_of {P:Program} {r:List (List Char)} (h:behindMainWord (wordsSigns P.initOrder.toList)=w3::r):P.liftsFinal=false:=by
 unfold Program.liftsFinal Program.headLifts
 simp only [h,strip,not_carried,is_cut,if_true,Bool.false_and,Bool.false_or,List.contains_nil]
theorem make_of {P:Program} {r:List (List Char)} (h:behindMainWord (wordsSigns P.initOrder.toList)=w3::r):P.make=some .cut:=by
 unfold Program.make
 simp only [h,not_gc,cut_,Bool.true_or,if_true,Bool.false_eq_true,if_false]
theorem lifts:Try.prog.liftsFinal=false:=by obtain ⟨r,h⟩:=behind;exact lifts_of h
theorem make:Try.prog.make=some .cut:=by obtain ⟨r,h⟩:=behind;exact make_of h
theorem later:Try.prog.laysLater=false:=by kernel_rfl
theorem reflects:Try.prog.bearsReflect=false:=by kernel_rfl
theorem door:Try.prog.doorFits []=true:=by kernel_rfl
theorem may_of {P:Program} {r:List (List Char)} (h:behindMainWord (wordsSigns P.initOrder.toList)=w3::r) (h1:P.laysLater=false) (h2:P.bearsReflect=false) (h3:P.doorFits []=true):P.mayEnter=true:=by
 unfold Program.mayEnter
 simp only [h,strip,is_cut,h1,h2,h3,List.contains_nil,Bool.not_false,Bool.or_true,Bool.and_true,Bool.and_self]
theorem mayEnter:Try.prog.mayEnter=true:=by obtain ⟨r,h⟩:=behind;exact may_of h later reflects door
theorem stopsHeard:Try.prog.stopsHeard=true:=by kernel_rfl
theorem laidOut:laidOutB Try.prog=true:=by kernel_rfl
theorem mapsRowed:mapsRowed Try.prog=true:=by kernel_rfl
theorem stops:(Try.prog.stops==[])=true:=by kernel_rfl
theorem stopKnobs:(Try.prog.stopKnobs==[])=true:=by kernel_rfl
end Go.Proofs.Ytahidkjncljkaaa.Head

namespace Go.Proofs.Ytahidkjncljkaaa.wantCircle
open Go.ChangeShapes Go.WideShapes Go.ChangeAt Go.RowKit
open Go.ChangeMaps (open_string shut_string)
theorem own:ownKnob Try.prog.godebug=none:=by kernel_rfl
set_option maxRecDepth 100000 in
theorem lifted (os:Os) (started:os.Started) (H:Type) (enc:TypeId×Value→H):
  ReturnsInHanded {} Try.checked os 6 .any (Rows.wantCircleSpec.pre6 enc Try.prog Try.f6 Rows.wantCircleRow.domain false) (Rows.wantCircleSpec.post enc Try.prog Try.f6 false true false false):=by
 refine returnsInHanded_of_change_sized (C:=Try.checked) own started (by kernel_rfl) Try.func6
  (ChangeSpec.witness6 (enc:=enc) (C:=Try.checked) false ⟨#[],#[.int .u8 0, .bool false, .bool false],[]⟩ 8 (by kernel_rfl) (by kernel_rfl) (by kernel_rfl) (by kernel_rfl)) ?_
 intro W base args ds gs before hval0 hW hcnd hsz0 _
 have hsz:(DataW.weightsEach Try.prog (Try.f6.params.toList++Rows.wantCircleSpec.plain.varTypes Try.prog) (ds++gs)).all (· ≤reachBytes)=true:=hsz0
 have hval: ∀(j:Nat) t v,Try.f6.params[j]?=some t→args[j]?=some v→Value.okWide Try.prog W .any base t v:=hval0
 have hW':=hW
 obtain ⟨p,q,hA0,hV,rfl,hfz,hnd⟩:=hW
 have hA:DataW.TrodAll enc Try.prog W 0 (fun _=>true) true Try.f6.params.toList args.toList ds p:=hA0
 rw [Try.params6] at hA hval hsz
 obtain ⟨v0,vs0,d0,ds0,p0,q0,hargs,rfl,rfl,h0,r0⟩:=trodAll_cons hA
 obtain ⟨v1,vs1,d1,ds1,p1,q1,rfl,rfl,rfl,h1,r1⟩:=trodAll_cons r0
 obtain ⟨v2,vs2,d2,ds2,p2,q2,rfl,rfl,rfl,h2,r2⟩:=trodAll_cons r1
 obtain ⟨rfl,rfl,rfl⟩:=trodAll_nil r2
 obtain rfl:args=#[v0,v1,v2]:=by cases args;simp_all
 obtain ⟨rfl,rfl⟩:=trodVars_none hV
 obtain ⟨a0,rfl,rfl,rfl,w0⟩:=open_int Try.underlying5 (hval 0 5 v0 rfl rfl) h0
 obtain ⟨a1,rfl,rfl,rfl⟩:=open_bool Try.underlying4 (hval 1 4 v1 rfl rfl) h1
 obtain ⟨a2,rfl,rfl,rfl⟩:=open_bool Try.underlying4 (hval 2 4 v2 rfl rfl) h2
 clear hA0 hval0 hsz0 hsz
 refine (Print.law11_WantCircle.walk Pure.WantCircle a0 a1 a2 W w0).mono fun e W' ⟨he,bel⟩=> ?_
 subst he
 exact ⟨_,rfl,_,_,_,[],_,[],hW',trodAll_mk1 (shut_bool Try.underlying4 _),(trodAll_cons_mk (shut_int Try.underlying5 w0) (trodAll_cons_mk (shut_bool Try.underlying4 _) (trodAll_cons_mk (shut_bool Try.underlying4 _) trodAll_mk0))),rfl,bel.frame _,fun h=>by cases h⟩
set_option maxHeartbeats 4000000 in
theorem closedAll:joinedFacts Try.prog 6 Try.f6 Rows.wantCircleSpec Rows.wantCircleRow=true:=by
 simp only [joinedFacts,Bool.and_eq_true]
 repeat' apply And.intro
 all_goals (first|(with_reducible exact Head.mayEnter)|(with_reducible exact Head.stopsHeard)|(with_reducible exact Head.laidOut)|(with_reducible exact Head.mapsRowed)|(with_reducible exact Head.stops)|(with_reducible exact Head.stopKnobs)|(rw [Head.lifts];as_aux_lemma=>kernel_rfl)|(rw [Head.make];as_aux_lemma=>kernel_rfl)|(as_aux_lemma=>kernel_rfl))
theorem named:Try.prog.funcNamed Rows.wantCircleRow.func=some 6:=by kernel_rfl
set_option maxRecDepth 100000 in
theorem over:Rows.wantCircleRow.holds Try.pinned (OpenSpec.ofChange Rows.wantCircleSpec):=
 OpenClaim.holds_of_wide 6 Try.f6 rfl rfl rfl rfl rfl rfl rfl ⟨rfl,rfl,rfl,rfl,rfl⟩ rfl rfl rfl rfl rfl named Try.func6 closedAll
  (of_decide_eq_true (by kernel_rfl)) (by unfold Func.isWrapper;first|(rw [if_pos (by decide+kernel)];kernel_rfl)|(rw [if_neg (by decide+kernel)];exact ⟨rfl,rfl⟩))
  (fun os started H enc _=>lifted os started H enc)
theorem proved:Rows.WantCircleSaid:=over
#print axioms proved
end Go.Proofs.Ytahidkjncljkaaa.wantCircle
namespace Go.Proofs.Ytahidkjncljkaaa
theorem wantCircle_holds:Rows.WantCircleSaid:=wantCircle.proved
end Go.Proofs.Ytahidkjncljkaaa

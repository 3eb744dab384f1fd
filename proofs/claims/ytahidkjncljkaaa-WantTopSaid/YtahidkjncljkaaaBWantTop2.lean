/- WantTop: a part -/
import Derived.Shelf.Abstract
import Derived.StillTailTactics
import Derived.Test.YtahidkjncljkaaaBWantTop0
import Derived.Test.YtahidkjncljkaaaBWantTop1
set_option linter.unusedVariables false
set_option linter.unusedSimpArgs false
namespace Go.Proofs.Ytahidkjncljkaaa.Print
open Go.RowKit Go.Proofs.YtahidkjncljkaaaW.PrintWords Go.Proofs.YtahidkjncljkaaaW.PrintLast Go.Proofs.YtahidkjncljkaaaW.PrintMore
attribute [local go_sem] max2_int min2_int max_two min_two max_three min_three max_four min_four

end Go.Proofs.Ytahidkjncljkaaa.Print

namespace Go.Proofs.Ytahidkjncljkaaa.Print
open Go.RowKit Go.Proofs.YtahidkjncljkaaaW.PrintWords Go.Proofs.YtahidkjncljkaaaW.PrintLast
end Go.Proofs.Ytahidkjncljkaaa.Print

namespace Go.Proofs.Ytahidkjncljkaaa.Print
open Go.RowKit Go.Proofs.YtahidkjncljkaaaW.PrintWords Go.Proofs.YtahidkjncljkaaaW.PrintLast Go.Proofs.YtahidkjncljkaaaW.PrintMore
attribute [local go_sem] max2_int min2_int max_two min_two max_three min_three max_four min_four

end Go.Proofs.Ytahidkjncljkaaa.Print

namespace Go.Proofs.Ytahidkjncljkaaa.Print
open Go.RowKit Go.Proofs.YtahidkjncljkaaaW.PrintWords Go.Proofs.YtahidkjncljkaaaW.PrintLast
abbrev Want:=S39
abbrev zWant:Want:=z39
theorem rd_want (l:List Want) (i:Int):rd_T39 l i=l.getD i.toNat zWant:=rfl
theorem rd_wantN (l:List Want) {i:Nat} (h:i<l.length):rd_T39 l (i:Int)=l[i]:=by
 rw [rd_want,Int.toNat_natCast,List.getD_eq_getElem?_getD,List.getElem?_eq_getElem h,Option.getD_some]
def itW (w:Want):Item:=⟨w.f0,w.f1,w.f2,⟨0,0,0⟩,⟨0,0,0⟩,0⟩
def lookW (l:List Want) (n:ByteArray):Option Want:=l.find? (fun x=>x.f0=n)
def wfnd (l:List Want) (n:ByteArray):Int:=fidx (fun x:Want=>x.f0.toList==n.toList) l 0
theorem wlook (l:List Want) (n:ByteArray):look (l.map itW) n=(lookW l n).map itW:=by
  unfold look lookW
  induction l with
  |nil=>rfl
  | cons x l ih =>
    rw [List.map_cons,List.find?_cons,List.find?_cons]
    show (match decide (x.f0=n) with|true=>_|false=>_)=_
    by_cases h:x.f0=n
    · simp [h]
    simp [h,ih]
theorem lookW_mem {l:List Want} {n:ByteArray} {x:Want} (h:lookW l n=some x):x∈l∧x.f0=n:=by
 unfold lookW at h
 exact ⟨List.mem_of_find?_eq_some h,by simpa using List.find?_some h⟩
theorem lookW_none {l:List Want} {n:ByteArray}:lookW l n=none↔ ∀x∈l,x.f0≠n:=by
 unfold lookW
 simp
theorem wpred (n:ByteArray):(fun x:Want=>x.f0.toList==n.toList)=(fun x:Want=>decide (x.f0=n)):=by
 funext x;exact nm_beq _ _
theorem wfnd_none {l:List Want} {n:ByteArray} (h:lookW l n=none):wfnd l n= -1:=by
 unfold wfnd
 refine fidx_none fun x hx=> ?_
 rw [nm_beq]
 simpa using lookW_none.1 h x hx
theorem wfnd_some {l:List Want} {n:ByteArray} {x:Want} (h:lookW l n=some x): ∃j:Nat,j<l.length∧wfnd l n=j∧l.getD j zWant=x∧x.f0=n∧ ∀m,m<j→(l.getD m zWant).f0≠n:=by
 have h':l.find? (fun x:Want=>x.f0.toList==n.toList)=some x:=by rw [wpred];exact h
 obtain ⟨j,h1,h2,h3,h4,h5⟩:=fidx_some zWant (i:=0) h'
 refine ⟨j,h1,by unfold wfnd;rw [h2];omega,h3,by simpa [nm_beq] using h4,fun m hm=> ?_⟩
 simpa [nm_beq] using h5 m hm
theorem wfnd_neg {l:List Want} {n:ByteArray}:wfnd l n<0↔lookW l n=none:=by
 cases h:lookW l n with
 |none=>rw [wfnd_none h];simp
 |some x=>obtain ⟨j,h1,h2,_⟩:=wfnd_some h;simp;omega
def depGo (l:List Want):Nat→Int→ByteArray→Int
  |0,_,_=> -1
  | m + 1, d, n => match lookW l n with
    |none=>0
    |some w=>if d+1>(l.length:Int) then -1 else if w.f1=⟨#[]⟩ then d+1 else depGo l m (d+1) w.f1
def depR (l:List Want) (n:ByteArray):Int:=depGo l (l.length+1) 0 n
theorem depGo_succ (l:List Want) (m:Nat) (d:Int) (n:ByteArray):depGo l (m+1) d n=match lookW l n with
 |none=>0
 |some w=>if d+1>(l.length:Int) then -1 else if w.f1=⟨#[]⟩ then d+1 else depGo l m (d+1) w.f1:=rfl
end Go.Proofs.Ytahidkjncljkaaa.Print

namespace Go.Proofs.Ytahidkjncljkaaa.Print
open Go.RowKit Go.Proofs.YtahidkjncljkaaaW.PrintWords Go.Proofs.YtahidkjncljkaaaW.PrintLast Go.Proofs.YtahidkjncljkaaaW.PrintMore
attribute [local go_sem] max2_int min2_int max_two min_two max_three min_three max_four min_four

end Go.Proofs.Ytahidkjncljkaaa.Print

namespace Go.Proofs.Ytahidkjncljkaaa.Print
open Go.RowKit Go.Proofs.YtahidkjncljkaaaW.PrintWords Go.Proofs.YtahidkjncljkaaaW.PrintLast
def ParW (l:List Want):Prop:=(∀w∈l,w.f0≠⟨#[]⟩)∧ ∀w∈l,w.f1≠⟨#[]⟩→ ∃x,lookW l w.f1=some x
abbrev ChainW (l:List Want) (n:ByteArray) (us:List ByteArray):Prop:=Chain (l.map itW) n us
theorem ParW.root {l:List Want} (h:ParW l):lookW l ⟨#[]⟩=none:=lookW_none.2 fun x hx e=>h.1 x hx e
theorem chainW_cons {l:List Want} {n:ByteArray} {us:List ByteArray} {x:Want} (h:lookW l n=some x) (k:ChainW l x.f1 us):ChainW l n (n::us):= .cons (x:=itW x) (by rw [wlook,h];rfl) k
theorem chainW_nil {l:List Want} {n:ByteArray} (h:lookW l n=none):ChainW l n []:= .nil (by rw [wlook,h];rfl)
theorem chainW_inv {l:List Want} {n:ByteArray} {us:List ByteArray} (h:ChainW l n us):(lookW l n=none∧us=[])∨ ∃x vs,lookW l n=some x∧us=n::vs∧ChainW l x.f1 vs:=by
  cases h with
  | nil h1 =>
    rw [wlook] at h1
    exact .inl ⟨by simpa using h1,rfl⟩
  | @cons _ y vs h1 k =>
    rw [wlook] at h1
    obtain ⟨x,hx,rfl⟩:=Option.map_eq_some_iff.1 h1
    exact .inr ⟨x,vs,hx,rfl,k⟩
theorem chainW_len {l:List Want} {n:ByteArray} {us:List ByteArray} (h:ChainW l n us):us.length≤l.length:=by
 have:=h.len
 rwa [List.length_map] at this
theorem depGo_chain {l:List Want} (hp:ParW l): ∀(us:List ByteArray) (m:Nat) (d:Int) (n:ByteArray),ChainW l n us→d+us.length≤l.length→us.length≤m→depGo l (m+1) d n=if us=[] then 0 else d+us.length
  | us, m, d, n, h, hd, hm => by
    rw [depGo_succ]
    rcases chainW_inv h with ⟨h0,e0⟩|⟨x,vs,h0,e0,k⟩
    · subst e0
      rw [h0,if_pos rfl]
    subst e0
    rw [h0]
    dsimp only
    rw [List.length_cons] at hd hm ⊢
    rw [if_neg (show¬d+1>(l.length:Int) by omega),if_neg (show¬(n::vs=[]) by simp)]
    rcases chainW_inv k with ⟨h1,rfl⟩|⟨y,ws,h1,rfl,k1⟩
    · have e:x.f1=⟨#[]⟩:=by
        refine Classical.byContradiction fun q=> ?_
        obtain ⟨z,hz⟩:=hp.2 x (lookW_mem h0).1 q
        rw [h1] at hz;cases hz
      rw [if_pos e];rfl
    have e:x.f1≠⟨#[]⟩:=fun q=>by rw [q,hp.root] at h1;cases h1
    rw [if_neg e]
    match m,hm with
    |0,hm=>omega
    | m + 1, hm =>
      rw [depGo_chain hp (x.f1::ws) m (d+1) x.f1 k (by omega) (by omega),if_neg (by simp)]
      omega
theorem depGo_none {l:List Want} (hp:ParW l): ∀(m:Nat) (d:Int) (n:ByteArray),d+m=l.length→(∀us,¬ChainW l n us)→depGo l (m+1) d n= -1
  | m, d, n, hd, h => by
    rw [depGo_succ]
    cases hx:lookW l n with
    |none=>exact absurd (chainW_nil hx) (h [])
    | some x =>
      dsimp only
      by_cases c:d+1>(l.length:Int)
      · rw [if_pos c]
      have e:x.f1≠⟨#[]⟩:=fun q=>h [n] (chainW_cons hx (chainW_nil (by rw [q];exact hp.root)))
      rw [if_neg c,if_neg e]
      match m,hd with
      |0,hd=>omega
      |m+1,hd=>exact depGo_none hp m (d+1) x.f1 (by omega) (fun us k=>h _ (chainW_cons hx k))
theorem depR_chain {l:List Want} (hp:ParW l) {n:ByteArray} {us:List ByteArray} (h:ChainW l n us):depR l n=us.length:=by
  have hl:=chainW_len h
  unfold depR
  rw [depGo_chain hp us l.length 0 n h (by omega) hl]
  by_cases e:us=[]
  · rw [if_pos e,e];rfl
  rw [if_neg e];omega
theorem depR_none {l:List Want} (hp:ParW l) {n:ByteArray} (h: ∀us,¬ChainW l n us):depR l n= -1:=depGo_none hp _ _ _ (by omega) h
theorem depR_le {l:List Want} (hp:ParW l) (n:ByteArray):depR l n≤l.length:=by
  by_cases h: ∃us,ChainW l n us
  rotate_left
  · rw [depR_none hp (fun us k=>h ⟨us,k⟩)];omega
  obtain ⟨us,h⟩:=h
  rw [depR_chain hp h]
  have:=chainW_len h
  omega
theorem depR_some {l:List Want} (hp:ParW l) {n:ByteArray} {x:Want} (hx:lookW l n=some x) (h:0<depR l n):depR l n=depR l x.f1+1∧0≤depR l x.f1∧(x.f1≠⟨#[]⟩→0<depR l x.f1):=by
  by_cases c: ∃us,ChainW l n us
  rotate_left
  · rw [depR_none hp (fun us k => c ⟨us, k⟩)] at h
    omega
  obtain ⟨us,c⟩:=c
  rcases chainW_inv c with ⟨h1,rfl⟩|⟨y,vs,h1,rfl,k⟩
  · rw [hx] at h1;cases h1
  rw [hx] at h1
  obtain rfl:=Option.some.inj h1
  rw [depR_chain hp c,depR_chain hp k,List.length_cons]
  refine ⟨by omega,by omega,fun e=> ?_⟩
  rcases chainW_inv k with ⟨h2,rfl⟩|⟨z,ws,h2,rfl,k2⟩
  · obtain ⟨z, hz⟩ := hp.2 x (lookW_mem hx).1 e
    rw [h2] at hz;cases hz
  rw [List.length_cons];omega
theorem depR_root {l:List Want} (hp:ParW l):depR l ⟨#[]⟩=0:=depR_chain hp (chainW_nil hp.root)
theorem depR_absent {l:List Want} (hp:ParW l) {n:ByteArray} (h:lookW l n=none):depR l n=0:=depR_chain hp (chainW_nil h)
def mayW (w:Want):Bool:=decide ((w.f0≠⟨#[]⟩∧w.f0.size≤24)∧MayP w.f2)
def ph1:List Want→List Want→Int
 |_,[]=>0
 |pre,w::ws=>if mayW w=true then (if (lookW pre w.f0).isSome=true then 3 else ph1 (pre++ [w]) ws) else 1
def sumGo (n:ByteArray):List Want→Vec→Vec
 |[],v=>v
 |w::ws,v=>sumGo n ws (if w.f1=n then vadd v w.f2 else v)
def sumW (l:List Want) (n:ByteArray):Vec:=sumGo n l ⟨0,0,0⟩
def noPar (l:List Want) (w:Want):Bool:=decide (w.f1≠⟨#[]⟩∧lookW l w.f1=none)
def checkR (l:List Want):Int:=
 if l.length>120 then 4 else if ph1 [] l≠0 then ph1 [] l else if l.any (noPar l)=true then 2 else if l.any (fun w=>decide (depR l w.f0<1))=true then 10 else if l.any (fun w=> !decide (LeP (sumW l w.f0) w.f2))=true then 11 else 0
theorem ph1_ok: ∀{ws pre:List Want},ph1 pre ws=0→ ∀w∈ws,mayW w=true
  |[],_,_,w,hw=>by cases hw
  | x :: ws, pre, h, w, hw => by
    unfold ph1 at h
    by_cases c:mayW x=true
    rotate_left
    · rw [if_neg c] at h;omega
    rw [if_pos c] at h
    by_cases e:(lookW pre x.f0).isSome=true
    · rw [if_pos e] at h;omega
    rw [if_neg e] at h
    rcases List.mem_cons.1 hw with rfl|hw
    · exact c
    exact ph1_ok h w hw
theorem ph1_nodup: ∀{ws pre:List Want},ph1 pre ws=0→(pre.map (·.f0)).Nodup→((pre++ws).map (·.f0)).Nodup
  |[],pre,_,hn=>by rwa [List.append_nil]
  | x :: ws, pre, h, hn => by
    unfold ph1 at h
    by_cases c:mayW x=true
    rotate_left
    · rw [if_neg c] at h;omega
    rw [if_pos c] at h
    by_cases e:(lookW pre x.f0).isSome=true
    · rw [if_pos e] at h;omega
    rw [if_neg e] at h
    have q:=ph1_nodup h (by
      rw [List.map_append,List.map_cons,List.map_nil,List.nodup_append]
      refine ⟨hn,by simp, ?_⟩
      intro a ha b hb
      obtain ⟨y,hy,rfl⟩:=List.mem_map.1 ha
      rw [List.mem_singleton] at hb
      subst hb
      have hz:lookW pre x.f0=none:=by simpa using e
      exact fun q=>lookW_none.1 hz y hy q)
    rwa [List.append_assoc] at q
theorem ph1_01: ∀(ws pre:List Want),ph1 pre ws=0∨ph1 pre ws=1∨ph1 pre ws=3
  |[],_=> .inl rfl
  | x :: ws, pre => by
    unfold ph1
    split
    rotate_left
    · exact .inr (.inl rfl)
    split
    · exact .inr (.inr rfl)
    exact ph1_01 ws _
theorem mayW_iff {w:Want}:mayW w=true↔(w.f0≠⟨#[]⟩∧w.f0.size≤24)∧MayP w.f2:=by unfold mayW;rw [decide_eq_true_iff]
structure TreeW (l:List Want):Prop where
 len:l.length≤120
 may: ∀w∈l,mayW w=true
 nodup:(l.map (·.f0)).Nodup
 par:ParW l
 dep: ∀w∈l,1≤depR l w.f0
theorem any_false {α:Type} {p:α→Bool} {l:List α}: ¬l.any p=true↔ ∀x∈l,p x=false:=by simp
theorem checkR_tree {l:List Want} (h:checkR l=0∨checkR l=11):TreeW l:=by
  unfold checkR at h
  by_cases c0:l.length>120
  · rw [if_pos c0] at h;omega
  rw [if_neg c0] at h
  by_cases c1:ph1 [] l≠0
  · rw [if_pos c1] at h
    rcases ph1_01 l [] with q|q|q<;>omega
  rw [if_neg c1] at h
  have c1':ph1 [] l=0:=by omega
  by_cases c2:l.any (noPar l)=true
  · rw [if_pos c2] at h;omega
  rw [if_neg c2] at h
  by_cases c3:l.any (fun w=>decide (depR l w.f0<1))=true
  · rw [if_pos c3] at h;omega
  have hm:=ph1_ok c1'
  refine ⟨by omega,hm, ?_,⟨fun w hw=>(mayW_iff.1 (hm w hw)).1.1,fun w hw e=> ?_⟩,fun w hw=> ?_⟩
  · have := ph1_nodup c1' (by simp)
    rwa [List.nil_append] at this
  rotate_left
  · have q := any_false.1 c3 w hw
    rw [decide_eq_false_iff_not] at q
    omega
  have q:=any_false.1 c2 w hw
  unfold noPar at q
  rw [decide_eq_false_iff_not] at q
  cases hx:lookW l w.f1 with
  |none=>exact absurd ⟨e,hx⟩ q
  |some x=>exact ⟨x,rfl⟩
theorem nx64 {i n:Nat} (h:i<n) (hn:n<1000000):wrap64 ((i:Int)+1)=((i+1:Nat):Int):=by rw [w64 (by omega) (by omega)];rfl
def UptoV (n:Nat) (v:Vec):Prop:= ∀c:Comp,0≤c.of v∧c.of v≤1099511627776*(n:Int)
theorem uptoV_add {n:Nat} {v u:Vec} (h:UptoV n v) (hu:MayP u):UptoV (n+1) (vadd v u):=fun c=>by
 have:=h c;have:=hu c
 rw [of_vadd]
 omega
theorem uptoV_succ {n:Nat} {v:Vec} (h:UptoV n v):UptoV (n+1) v:=fun c=>by have:=h c;omega
def badSum (l:List Want) (w:Want):Bool:= !decide (LeP (sumW l w.f0) w.f2)
end Go.Proofs.Ytahidkjncljkaaa.Print

namespace Go.Proofs.Ytahidkjncljkaaa.Print
open Go.RowKit Go.Proofs.YtahidkjncljkaaaW.PrintWords Go.Proofs.YtahidkjncljkaaaW.PrintLast Go.Proofs.YtahidkjncljkaaaW.PrintMore
attribute [local go_sem] max2_int min2_int max_two min_two max_three min_three max_four min_four

end Go.Proofs.Ytahidkjncljkaaa.Print

namespace Go.Proofs.Ytahidkjncljkaaa.Print
open Go.RowKit Go.Proofs.YtahidkjncljkaaaW.PrintWords Go.Proofs.YtahidkjncljkaaaW.PrintLast
def bef (l:List Want) (a b:Want):Bool:=decide (depR l a.f0<depR l b.f0)||(decide (depR l a.f0=depR l b.f0) && lt a.f0 b.f0)
def insT (l:List Want) (w:Want) (out:List Want):List Want:=out.takeWhile (fun a=>bef l a w)++w::out.dropWhile (fun a=>bef l a w)
def topGo (l:List Want) (out:List Want):List Want→List Want
 |[]=>out
 |w::ws=>topGo l (insT l w out) ws
def topR (l:List Want):List Want:=topGo l [] l
theorem bef_irrefl (l:List Want) (a:Want):bef l a a=false:=by unfold bef;rw [decide_eq_false (by omega),lt_irrefl];simp
theorem bef_iff {l:List Want} {a b:Want}:bef l a b=true↔depR l a.f0<depR l b.f0∨(depR l a.f0=depR l b.f0∧lt a.f0 b.f0=true):=by unfold bef;simp
theorem bef_trans {l:List Want} {a b c:Want} (h:bef l a b=true) (k:bef l b c=true):bef l a c=true:=by
  rw [bef_iff] at h k ⊢
  rcases h with h|⟨h,h'⟩<;>rcases k with k|⟨k,k'⟩
  · exact .inl (by omega)
  · exact .inl (by omega)
  · exact .inl (by omega)
  exact .inr ⟨by omega,lt_trans h' k'⟩
theorem bef_total {l:List Want} {a b:Want} (h:bef l a b=false) (hn:a.f0≠b.f0):bef l b a=true:=by
  rw [←Bool.not_eq_true,bef_iff] at h
  rw [bef_iff]
  by_cases e:depR l a.f0=depR l b.f0
  rotate_left
  · exact .inl (by have: ¬depR l a.f0<depR l b.f0:=fun q=>h (.inl q);omega)
  refine .inr ⟨e.symm,lt_total ?_ hn⟩
  rw [←Bool.not_eq_true]
  exact fun q=>h (.inr ⟨e,q⟩)
theorem insT_perm (l:List Want) (w:Want) (out:List Want):(insT l w out).Perm (w::out):=by
 unfold insT
 have:=List.perm_middle (a:=w) (l₁:=out.takeWhile (fun a=>bef l a w)) (l₂:=out.dropWhile (fun a=>bef l a w))
 rwa [List.takeWhile_append_dropWhile] at this
theorem topGo_perm (l:List Want): ∀(ws out:List Want),(topGo l out ws).Perm (out++ws)
  |[],out=>by rw [List.append_nil];exact .refl _
  | w :: ws, out => by
    unfold topGo
    refine (topGo_perm l ws _).trans ?_
    refine ((insT_perm l w out).append_right ws).trans ?_
    exact List.perm_middle.symm
theorem topR_perm (l:List Want):(topR l).Perm l:=topGo_perm l l []
theorem insT_sorted {l:List Want} {w:Want} {out:List Want} (h:out.Pairwise (fun a b=>bef l a b=true)) (hn: ∀a∈out,a.f0≠w.f0):(insT l w out).Pairwise (fun a b=>bef l a b=true):=by
  induction out with
  |nil=>simp [insT]
  | cons x out ih =>
    rw [List.pairwise_cons] at h
    unfold insT
    rw [List.takeWhile_cons,List.dropWhile_cons]
    by_cases c:bef l x w=true
    · rw [c]
      show (x::insT l w out).Pairwise _
      rw [List.pairwise_cons]
      refine ⟨fun a ha=> ?_,ih h.2 (fun a ha=>hn a (by simp [ha]))⟩
      rcases List.mem_cons.1 ((insT_perm l w out).mem_iff.1 ha) with rfl|ha
      · exact c
      exact h.1 a ha
    rw [Bool.eq_false_iff.2 c]
    show (w::x::out).Pairwise _
    have hw:=bef_total (Bool.eq_false_iff.2 c) (hn x (by simp))
    rw [List.pairwise_cons,List.pairwise_cons]
    refine ⟨fun a ha=> ?_,h⟩
    rcases List.mem_cons.1 ha with rfl|ha
    · exact hw
    exact bef_trans hw (h.1 a ha)
theorem topGo_sorted {l:List Want}: ∀{ws out:List Want},out.Pairwise (fun a b=>bef l a b=true)→((out++ws).map (·.f0)).Nodup→(topGo l out ws).Pairwise (fun a b=>bef l a b=true)
  |[],out,h,_=>h
  | w :: ws, out, h, hn => by
    unfold topGo
    have hn2:=hn
    rw [List.map_append,List.map_cons,List.nodup_append] at hn2
    refine topGo_sorted (insT_sorted h (fun a ha q=>hn2.2.2 a.f0 (List.mem_map_of_mem ha) w.f0 (by simp) q)) ?_
    refine (((insT_perm l w out).append_right ws).map _).nodup_iff.2 ?_
    exact ((List.perm_middle (a:=w) (l₁:=out) (l₂:=ws)).map _).nodup_iff.1 hn
theorem topR_sorted {l:List Want} (hn:(l.map (·.f0)).Nodup):(topR l).Pairwise (fun a b=>bef l a b=true):=topGo_sorted (by simp) (by simpa using hn)
theorem top_unique {l t:List Want} (hn:(l.map (·.f0)).Nodup) (hp:t.Perm l) (hs:t.Pairwise (fun a b=>bef l a b=true)):t=topR l:=by
 refine List.Perm.eq_of_pairwise (le:=fun a b=>bef l a b=true) ?_ hs (topR_sorted hn) (hp.trans (topR_perm l).symm)
 intro a b _ _ h1 h2
 have:=bef_trans h1 h2
 rw [bef_irrefl] at this
 cases this
end Go.Proofs.Ytahidkjncljkaaa.Print

namespace Go.Proofs.Ytahidkjncljkaaa.Print
open Go.Shelf Go.RowKit Go.Lib Go.Sort
open Go.Proofs.YtahidkjncljkaaaW.PrintWords Go.Proofs.YtahidkjncljkaaaW.PrintLast Go.Proofs.YtahidkjncljkaaaW.PrintMore
def renS:Ren:=⟨fun n=>if n=20 then 147 else n,fun n=>match n with|0=>0|3=>3|4=>4|22=>22|24=>39|25=>121|m=>m,fun n=>n⟩
theorem laysIns:SlLaysF0.n20 Try.prog renS where
 mixed:=by kernel_rfl
 f20:=⟨ "slices.insertionSortCmpFunc[doorkeeper/api.Want]",by decide,by kernel_rfl⟩
 t0:=Try.underlying0
 a0:=Try.isAgg0
 z0:=Try.sizeOf0
 v0:=Try.zeroValue0
 t3:=Try.underlying3
 a3:=Try.isAgg3
 z3:=Try.sizeOf3
 v3:=Try.zeroValue3
 t4:=Try.underlying4
 a4:=Try.isAgg4
 z4:=Try.sizeOf4
 v4:=Try.zeroValue4
 t22:=Try.underlying22
 a22:=Try.isAgg22
 z22:=Try.sizeOf22
 v22:=Try.zeroValue22
 t25:=Try.underlying121
 a25:=Try.isAgg121
 z25:=Try.sizeOf121
 v25:=Try.zeroValue121
theorem sortT:SortT Try.prog 5 where
 mixed:=by kernel_rfl
 t0:=Try.underlying0
 a0:=Try.isAgg0
 z0:=Try.sizeOf0
 v0:=Try.zeroValue0
 t3:=Try.underlying3
 a3:=Try.isAgg3
 z3:=Try.sizeOf3
 v3:=Try.zeroValue3
 t4:=Try.underlying4
 a4:=Try.isAgg4
 z4:=Try.sizeOf4
 v4:=Try.zeroValue4
 t5:=Try.underlying207
 a5:=Try.isAgg207
 z5:=Try.sizeOf207
 v5:=Try.zeroValue207
 t22:=Try.underlying22
 a22:=Try.isAgg22
 z22:=Try.sizeOf22
 v22:=Try.zeroValue22
 t25:=Try.underlying121
 a25:=Try.isAgg121
 z25:=Try.sizeOf121
 v25:=Try.zeroValue121
 aE:=Try.isAgg39
 zE:=Try.sizeOf39
abbrev SW_:={w:Want // w.f0.size≤maxLen}
instance:Inhabited SW_:=⟨⟨zWant,Nat.zero_le _⟩⟩
def encW (x:SW_):List Value:=[.string x.1.f0, .string x.1.f1, .int .i64 x.1.f2.f0, .int .i64 x.1.f2.f1, .int .i64 x.1.f2.f2]
def cfW (f:ByteArray→Int) (x y:SW_):Int:=cmpW f x.1.f0 y.1.f0
theorem cmpI_neg {x y:Int}:cmpI x y<0↔x<y:=by
  unfold cmpI
  by_cases h1:x<y
  · simp [h1]
  · by_cases h2:y<x<;>simp [h1,h2]
theorem cmpI_zero {x y:Int}:cmpI x y=0↔x=y:=by
  unfold cmpI
  by_cases h1:x<y
  · simp [h1];omega
  · by_cases h2 : y < x
    · simp [h1,h2];omega
    · simp [h1,h2];omega
theorem cmpS_neg {x y:ByteArray}:cmpS x y<0↔lt x y=true:=by
  unfold cmpS
  by_cases h1:lt x y=true
  · simp [h1]
  · by_cases h2:lt y x=true<;>simp [h1,h2]
theorem cmpW_neg {f:ByteArray→Int} {x y:ByteArray}:cmpW f x y<0↔f x<f y∨(f x=f y∧lt x y=true):=by
  unfold cmpW orI
  by_cases h:cmpI (f x) (f y)=0
  · rw [if_pos h, cmpS_neg]
    have:=cmpI_zero.1 h
    constructor
    · exact fun q=> .inr ⟨this,q⟩
    · rintro (q | q)
      · omega
      · exact q.2
  · rw [if_neg h, cmpI_neg]
    have:f x≠f y:=fun q=>h (cmpI_zero.2 q)
    constructor
    · exact fun q=> .inl q
    · rintro (q | q)
      · exact q
      · exact absurd q.1 this
theorem ltOf_W {f:ByteArray→Int} {x y:SW_}:ltOf (cfW f) x y=true↔f x.1.f0<f y.1.f0∨(f x.1.f0=f y.1.f0∧lt x.1.f0 y.1.f0=true):=by
 unfold ltOf cfW
 rw [decide_eq_true_iff,cmpW_neg]
theorem ltOf_Wf {f:ByteArray→Int} {x y:SW_}:ltOf (cfW f) x y=false↔f y.1.f0<f x.1.f0∨(f x.1.f0=f y.1.f0∧lt x.1.f0 y.1.f0=false):=by
  rw [←Bool.not_eq_true,ltOf_W]
  constructor
  · intro h
    by_cases e:f x.1.f0=f y.1.f0
    · exact .inr ⟨e,by rw [←Bool.not_eq_true];exact fun q=>h (.inr ⟨e,q⟩)⟩
    · exact .inl (by have: ¬f x.1.f0<f y.1.f0:=fun q=>h (.inl q);omega)
  · rintro (h | ⟨h, h'⟩) (k | ⟨k, k'⟩)
    · omega
    · omega
    · omega
    · rw [h'] at k';cases k'
theorem lt_ntrans {a b c:ByteArray} (h:lt a b=false) (k:lt b c=false):lt a c=false:=by
  cases q:lt a c with
  |false=>rfl
  | true =>
    by_cases e:b=c
    · rw [e,q] at h;cases h
    · have := lt_trans q (lt_total k e)
      rw [h] at this;cases this
theorem swoW (f:ByteArray→Int):SWO (ltOf (cfW f)) where
  irrefl x:=ltOf_Wf.2 (.inr ⟨rfl,lt_irrefl _⟩)
  trans x y z h k:=by
    rw [ltOf_W] at h k ⊢
    rcases h with h|⟨h,h'⟩<;>rcases k with k|⟨k,k'⟩
    · exact .inl (by omega)
    · exact .inl (by omega)
    · exact .inl (by omega)
    · exact .inr ⟨by omega,lt_trans h' k'⟩
  ntrans x y z h k:=by
    rw [ltOf_Wf] at h k ⊢
    rcases h with h|⟨h,h'⟩<;>rcases k with k|⟨k,k'⟩
    · exact .inl (by omega)
    · exact .inl (by omega)
    · exact .inl (by omega)
    · exact .inr ⟨by omega,lt_ntrans h' k'⟩
theorem sortWorld_block {α:Type} [Inhabited α] (enc:α→List Value) (k:Nat) (w:World) (blk off m:Nat) (dk:Array α) (os:Array Obj) {g:Nat} (hg:g<w.heap.size) (hne:g≠blk):(sortWorldK enc k w blk off m dk os).heap[g]?=w.heap[g]?:=by
 show ((w.heap.modify blk _)++os)[g]?=_
 rw [Array.getElem?_append_left (by simpa using hg),Array.getElem?_modify,if_neg (fun e=>hne e.symm)]
theorem sortWorld_own {α:Type} [Inhabited α] (enc:α→List Value) (k:Nat) (w:World) (blk off m:Nat) (dk:Array α) (os:Array Obj) {c:Array Value} {e:TypeId} {fr:Nat×Nat} (h:w.heap[blk]?=some (.cells c e fr)):(sortWorldK enc k w blk off m dk os).heap[blk]?=some (.cells (putCells id off (flatK enc k dk) c) e fr):=by
 have hl:blk<w.heap.size:=(Array.getElem?_eq_some_iff.1 h).1
 show ((w.heap.modify blk _)++os)[blk]?=_
 rw [Array.getElem?_append_left (by simpa using hl),Array.getElem?_modify,if_pos rfl,h]
 rfl
theorem sortWorld_grown {α:Type} [Inhabited α] (enc:α→List Value) (k:Nat) (w:World) (blk off m:Nat) (dk:Array α) (os:Array Obj):w.grownBy (sortWorldK enc k w blk off m dk os) (some blk) where
 os:=rfl
 tape:=rfl
 output:=rfl
 size:=by
  show w.heap.size≤((w.heap.modify blk _)++os).size
  simp
 block:=fun g hg hne=>sortWorld_block enc k w blk off m dk os hg (fun e=>hne (by rw [e]))
theorem cmpLaysW (f:ByteArray→Int) {w0:World} {gd b mb n:Nat} {v0:Value} (hgd:w0.heap[gd]?=some (.cells #[.pointer (some ⟨b,0,none⟩)] 108 (0,0))) (hb:w0.heap[b]?=some (.cells #[v0, .map (some mb)] 113 (0,0))) (hm:MapAt w0 mb n f) {blk:Nat} (h1:gd≠blk) (h2:b≠blk) (h3:mb≠blk) (off size:Nat):
    CmpLays Try.prog 79 #[.pointer (some ⟨gd,0,none⟩)] encW 5 (cfW f) blk off size w0:=by
  intro m os dk _ x y
  refine wantTop1_calls (sortWorldK encW 5 w0 blk off m dk os) gd b mb n v0 f ?_ ?_ ?_ x.1 y.1 x.2 y.2
  · rw [sortWorld_block _ _ _ _ _ _ _ _ (blk_lt hgd) h1];exact hgd
  · rw [sortWorld_block _ _ _ _ _ _ _ _ (blk_lt hb) h2];exact hb
  · exact hm.kept (sortWorld_block _ _ _ _ _ _ _ _ hm.lt h3)
theorem encW_len (x:SW_):(encW x).length=5:=rfl
theorem encW_one (x:SW_): ∀v∈encW x,v.oneCell'=true:=by
 intro v hv
 simp only [encW,List.mem_cons,List.not_mem_nil,or_false] at hv
 rcases hv with rfl|rfl|rfl|rfl|rfl<;>rfl
def arrW (l:List Want) (h: ∀x∈l,x.f0.size≤maxLen):Array SW_:=(l.attach.map fun x=>(⟨x.1,h x.1 x.2⟩:SW_)).toArray
theorem arrW_list (l:List Want) (h: ∀x∈l,x.f0.size≤maxLen):(arrW l h).toList.map (·.1)=l:=by
 unfold arrW
 rw [List.map_map]
 show l.attach.map (fun x=>x.1)=l
 simp
theorem arrW_size {l:List Want} {d:Array SW_} (h:d.toList.map (·.1)=l):d.size=l.length:=by rw [←h,List.length_map,Array.length_toList]
theorem arrW_get {l:List Want} {d:Array SW_} (h:d.toList.map (·.1)=l) {j:Nat} (hj:j<l.length):d[j]!.1=l[j]:=by
 have hs:=arrW_size h
 have e:(d.toList.map (·.1))[j]?=l[j]?:=by rw [h]
 rw [List.getElem?_map,Array.getElem?_toList,List.getElem?_eq_getElem hj,Array.getElem?_eq_getElem (by omega)] at e
 rw [getElem!_pos d j (by omega)]
 exact Option.some.inj e
theorem flat_get (d:Array SW_) {j i:Nat} (hj:j<d.size) (hi:i<5):(flatK encW 5 d).toList[j*5+i]?=(encW d[j]!)[i]?:=by
 have h:j*5+i<d.size*5:=by omega
 have e1:=get_flatK encW 5 d (j*5+i) h
 rw [show (j*5+i) / 5=j by omega,show (j*5+i) % 5=i by omega] at e1
 rw [Array.getElem?_toList,Array.getElem?_eq_getElem (by simpa using h),List.getElem?_eq_getElem (by rw [encW_len];exact hi)]
 rw [getElem!_pos _ _ (by simpa using h),getElem!_pos _ _ (by rw [encW_len];exact hi)] at e1
 rw [e1]
theorem flat_seg (d:Array SW_) {j:Nat} (hj:j<d.size):((flatK encW 5 d).toList.drop (j*5)).take 5=encW d[j]!:=by
  apply List.ext_getElem?
  intro i
  by_cases hi:i<5
  · rw [List.getElem?_take_of_lt hi,List.getElem?_drop,flat_get d hj hi]
  · rw [List.getElem?_eq_none (by rw [List.length_take];omega),List.getElem?_eq_none (by rw [encW_len];omega)]
theorem flat_len (d:Array SW_):(flatK encW 5 d).toList.length=d.size*5:=by simp
theorem reps_flat (w:World) (base:Nat) (ok:Nat→Prop) (d:Array SW_):Reps (k39.M w base ok) 5 (d.toList.map (·.1)) (flatK encW 5 d).toList:=by
 refine ⟨by rw [flat_len,List.length_map,Array.length_toList],fun j p hp=> ?_⟩
 have hj:j<d.size:=by
  have:=(List.getElem?_eq_some_iff.1 hp).1
  rwa [List.length_map,Array.length_toList] at this
 rw [flat_seg d hj]
 have e:d[j]!.1=p:=by
  rw [List.getElem?_map,Array.getElem?_toList,Array.getElem?_eq_getElem hj] at hp
  rw [getElem!_pos d j hj]
  exact Option.some.inj hp
 rw [←e]
 exact k39_mkM w base ok d[j]!.1
theorem flat_of_reps {w:World} {base:Nat} {ok:Nat→Prop} {l:List Want} {inner:List Value} (h:Reps (k39.M w base ok) 5 l inner) {d:Array SW_} (hd:d.toList.map (·.1)=l):inner=(flatK encW 5 d).toList:=by
  have hs:=arrW_size hd
  apply List.ext_getElem?
  intro t
  by_cases ht:t<d.size*5
  · have hj : t / 5 < l.length := by omega
    have q:=k39_openM (h.2 (t / 5) l[t / 5] (List.getElem?_eq_getElem hj))
    have e:t=(t / 5)*5+t % 5:=by omega
    have q2:=congrArg (fun z=>z[t % 5]?) q
    try dsimp only at q2
    rw [List.getElem?_take_of_lt (by omega),List.getElem?_drop,←e] at q2
    have g:=arrW_get hd hj
    have q3:=flat_get d (j:=t / 5) (i:=t % 5) (by omega) (by omega)
    rw [←e] at q3
    rw [q2,q3]
    unfold encW
    rw [g]
  · rw [List.getElem?_eq_none (by rw [h.1];omega),List.getElem?_eq_none (by rw [flat_len];omega)]
theorem put_take {F cur:Array Value} (h:F.size≤cur.size):(putCells id 0 F cur).toList.take F.size=F.toList:=by
  apply List.ext_getElem?
  intro t
  by_cases ht:t<F.size
  · rw [List.getElem?_take_of_lt ht, Array.getElem?_toList, Array.getElem?_toList, Array.getElem?_eq_getElem ht]
    unfold putCells
    rw [Array.getElem?_mapIdx,Array.getElem?_eq_getElem (by omega)]
    simp [ht]
  · rw [List.getElem?_eq_none (by rw [List.length_take];omega),List.getElem?_eq_none (by rw [Array.length_toList];omega)]
theorem put_size {F cur:Array Value}:(putCells id 0 F cur).size=cur.size:=by unfold putCells;simp
theorem ownW {w:World} {base:Nat} {v:Value} {l:List Want} (h:Kd.R k39 39 w base (fun _=>True) v l):(v= .slice none 0 0∧l=[])∨ ∃g cap cur,v= .slice (some ⟨g,0,none⟩) l.length cap∧base≤g∧w.heap[g]?=some (.cells cur 39 (0,0))∧l.length≤cap∧cap≤maxLen∧cur.size=cap*5∧
    ∀d:Array SW_,d.toList.map (·.1)=l→cur.toList.take (l.length*5)=(flatK encW 5 d).toList:=by
  obtain ⟨_,inner,⟨h1,h2⟩,hr⟩:=h
  rcases h2 with ⟨rfl,h2⟩|⟨g,cap,cur,rfl,hg,hh,hc,hm,hs,ht⟩
  · exact .inl ⟨rfl,List.length_eq_zero_iff.1 h2⟩
  · exact .inr ⟨g,cap,cur,rfl,hg,hh,hc,hm,hs,fun d hd=>ht.trans (flat_of_reps hr hd)⟩
theorem holdsW {w:World} {g n:Nat} {cur:Array Value} {d:Array SW_} (hh:w.heap[g]?=some (.cells cur 39 (0,0))) (ht:cur.toList.take n=(flatK encW 5 d).toList):HoldsK encW 5 w g 0 d:=by
  intro j hj
  have hj':j<(flatK encW 5 d).size:=hj
  rw [Nat.zero_add]
  refine ⟨?_,blk_frozen hh j⟩
  rw [blk_cell hh j]
  have e:(cur.toList.take n)[j]?=(flatK encW 5 d).toList[j]?:=by rw [ht]
  rw [show (flatK encW 5 d).toList[j]?=some (flatK encW 5 d)[j] by rw [Array.getElem?_toList,Array.getElem?_eq_getElem hj']] at e
  have hjn:j<n:=by
    by_cases q:j<n
    · exact q
    · rw [List.getElem?_eq_none (by rw [List.length_take];omega)] at e;cases e
  rw [List.getElem?_take_of_lt hjn,Array.getElem?_toList] at e
  rw [e,getElem!_pos (flatK encW 5 d) j hj']
  rfl
theorem sortedW {w:World} {base g cap m:Nat} {cur:Array Value} {os:Array Obj} {d d':Array SW_} (hg:base≤g) (hh:w.heap[g]?=some (.cells cur 39 (0,0))) (hc:d.size≤cap) (hm:cap≤maxLen) (hs:cur.size=cap*5) (hd:d'.size=d.size):
    Kd.R k39 39 (sortWorldK encW 5 w g 0 m d' os) base (fun _=>True) (.slice (some ⟨g,0,none⟩) d.size cap) (d'.toList.map (·.1)):=by
  refine ⟨fun _ _=>trivial,(flatK encW 5 d').toList,⟨by rw [flat_len,List.length_map,Array.length_toList];rfl, .inr ⟨g,cap,_, ?_,hg,sortWorld_own encW 5 w g 0 m d' os hh, ?_,hm, ?_, ?_⟩⟩,reps_flat _ _ _ d'⟩
  · rw [List.length_map,Array.length_toList,hd]
  · rw [List.length_map,Array.length_toList];omega
  · rw [put_size,hs];rfl
  · have e : (List.map (·.1) d'.toList).length * 5 = (flatK encW 5 d').size := by rw [List.length_map, Array.length_toList, size_flatK]
    show (putCells id 0 (flatK encW 5 d') cur).toList.take ((List.map (·.1) d'.toList).length*5)=_
    rw [e]
    exact put_take (by rw [size_flatK,hs];omega)
theorem insN_w (f:ByteArray→Int) {w0:World} {blk cap g:Nat} {cb:Array Value} {d0:Array SW_} (eg: ∀args w,(callFunc g args).run Try.prog w= .ok (.enter g args) w) (hcmp:CmpLays Try.prog g cb encW 5 (cfW f) blk 0 d0.size w0) (R:RowK encW 5 w0 blk 0 d0) (hsz:d0.size<576460752303423488):InsN Try.prog encW (cfW f) 5 g cb blk 0 cap d0 w0:=by
 intro a b d w hs S hab hb
 have hins:=insertionSort_holds (swoW f) d a b hab hb
 have hC:CmpLays Try.prog g cb encW 5 (cfW f) blk 0 d.size w:=fun m os dk hdk x y=>by
  obtain ⟨n0,os0,rfl⟩:=S
  rw [sortWorldK_on encW 5 w0 blk 0 n0 m d dk os0 os R.hblk hdk]
  exact hcmp _ _ dk (by omega) x y
 have key:=AnyQ.insertionSortCmpFunc laysIns 5 Try.isAgg39 Try.sizeOf39 encW encW_len encW_one (cfW f) g cb blk 0 cap a b d w eg hC (S.holds R.hblk R.hH hs.symm) (S.lt R.hblk) hab hb (by omega)
 refine Calls.mono (show Calls Try.prog 147 _ w _ from key) ?_
 rintro e w' ⟨rfl,n,os,rfl⟩
 exact ⟨rfl,_,S.on R.hblk n _ os hins.1.1,hins.2,hins.1⟩
set_option maxRecDepth 100000 in
theorem insNil_calls (c:Nat) (fv:Value) (w:World):Calls Try.prog 147 #[.slice none 0 c, .int .i64 0, .int .i64 0,fv] w fun e w'=>e= .returned (.tuple #[])∧w'=w:=by
 go_enter Try.func147,Try.ntmps147
 go_wp2
 refine wp_loop_rounds 1 ?_
 rw [rounds_succ]
 go_wp2
 go_end0
 exact ⟨rfl,rfl⟩
set_option maxRecDepth 100000 in
theorem stableNil_calls (c:Nat) (fv:Value) (w:World):Calls Try.prog 116 #[.slice none 0 c, .int .i64 0,fv] w fun e w'=>e= .returned (.tuple #[])∧w'=w:=by
 go_enter Try.func116,Try.ntmps116
 go_wp2
 refine wp_loop_rounds 1 ?_
 rw [rounds_succ]
 go_wp2_with (go_at_call 147;refine (insNil_calls _ _ _).mono ?_;rintro e w1 ⟨rfl,rfl⟩)
 refine wp_loop_rounds 1 ?_
 rw [rounds_succ]
 go_wp2
 go_end0
 exact ⟨rfl,rfl⟩
set_option maxHeartbeats 1000000 in
set_option maxRecDepth 100000 in
theorem sortWants_calls (f:ByteArray→Int) {w:World} {base gd b mb n:Nat} {v0 v:Value} {l:List Want} (hgd:w.heap[gd]?=some (.cells #[.pointer (some ⟨b,0,none⟩)] 108 (0,0))) (hb:w.heap[b]?=some (.cells #[v0, .map (some mb)] 113 (0,0))) (hm:MapAt w mb n f) (hR:Kd.R k39 39 w base (fun _=>True) v l) (hs: ∀x∈l,x.f0.size≤maxLen) (hl:l.length≤1000)
    (hmb: ∀k,v.ownBlock=some k→mb≠k):
    Calls Try.prog 78 #[v, .func (.func 79) #[] #[.pointer (some ⟨gd,0,none⟩)]] w fun e w'=>e= .returned (.tuple #[])∧ ∃l',Kd.R k39 39 w' base (fun _=>True) v l'∧l'.Perm l∧l'.Pairwise (fun x y=> ¬cmpW f y.f0 x.f0<0)∧w.grownBy w' v.ownBlock:=by
  rcases ownW hR with ⟨rfl,rfl⟩|⟨g,cap,cur,rfl,hg,hh,hc,hcm,hcs,hflat⟩
  · have HR := Aside0.mk hR
    go_enter Try.func78,Try.ntmps78
    go_wp2_with (go_at_call 116;refine (stableNil_calls _ _ _).mono ?_;rintro e w1 ⟨rfl,rfl⟩)
    go_end0
    exact ⟨rfl,[],HR.out, .refl _, .nil,⟨rfl,rfl,rfl,Nat.le_refl _,fun _ _ _=>rfl⟩⟩
  · obtain ⟨d, hd⟩ : ∃ d : Array SW_, d.toList.map (·.1) = l := ⟨arrW l hs, arrW_list l hs⟩
    have hds:=arrW_size hd
    have hH:=holdsW hh (hflat d hd)
    have R:RowK encW 5 w g 0 d:=⟨encW_len,encW_one,hH,blk_lt hh⟩
    have ne1:gd≠g:=by rintro rfl;rw [hgd] at hh;simp at hh
    have ne2:b≠g:=by rintro rfl;rw [hb] at hh;simp at hh
    have ne3:mb≠g:=hmb g (by simp [Value.ownBlock])
    have hcmp:=cmpLaysW f hgd hb hm ne1 ne2 ne3 0 d.size
    have eg: ∀args w,(callFunc 79 args).run Try.prog w= .ok (.enter 79 args) w:=enters_of Try.func79 (by kernel_rfl) rfl
    have hI:=insN_w f (cap:=cap) eg hcmp R (by omega)
    have hY:=symMerge_w Try.func176 Try.func169 Try.func148 sortT encW (cfW f) 79 #[.pointer (some ⟨gd,0,none⟩)] g 0 cap d w eg hcmp R (swoW f) (by omega)
    have key:=stable_w Try.func147 Try.func148 Try.func116 sortT encW (cfW f) 79 #[.pointer (some ⟨gd,0,none⟩)] g 0 cap d w hI hY (by omega) d w rfl (SWK.start hH)
    rw [hds] at key
    have fin: ∀d':Array SW_,∀w',SWK encW 5 w g 0 d' w'→SortedIn (ltOf (cfW f)) 0 l.length d'→PermIn 0 l.length d d'→ ∃l',Kd.R k39 39 w' base (fun _=>True) (.slice (some ⟨g,0,none⟩) l.length cap) l'∧l'.Perm l∧l'.Pairwise (fun x y=> ¬cmpW f y.f0 x.f0<0)∧w.grownBy w' (some g):=by
      rintro d' w' ⟨m,os,rfl⟩ hso hp
      have hd':=hp.1
      have r:=sortedW (m:=m) (os:=os) (d:=d) (d':=d') hg hh (by omega) hcm hcs hd'
      rw [hds] at r
      refine ⟨_,r, ?_, ?_,sortWorld_grown encW 5 w g 0 m d' os⟩
      · have q := hp.2.2
        rw [show d'.extract 0 l.length=d' by rw [←hds,←hd'];exact Array.extract_size,show d.extract 0 l.length=d by rw [←hds];exact Array.extract_size] at q
        have:=q.map (·.1)
        rwa [hd] at this
      · rw [List.pairwise_map, List.pairwise_iff_getElem]
        intro i j hi hj hij
        rw [Array.length_toList] at hi hj
        have q:=hso i j (Nat.zero_le _) hij (by omega)
        rw [getElem!_pos d' i hi,getElem!_pos d' j hj] at q
        unfold ltOf at q
        rw [decide_eq_false_iff_not] at q
        exact q
    have FIN:=Aside0.mk fin
    clear fin hI hY hcmp R hH eg hgd hb hm hR hh hflat hd
    go_enter Try.func78,Try.ntmps78
    go_wp2_with (go_at_call 116;refine key.mono ?_;rintro e w1 ⟨rfl,d',S,X,Y⟩;have T:=Aside0.mk (FIN.out d' w1 S X Y);clear S X Y)
    go_end0
    obtain ⟨l',h1,h2,h3,h4⟩:=T.out
    exact ⟨rfl,l',h1,h2,h3,by simpa [Value.ownBlock] using h4⟩
end Go.Proofs.Ytahidkjncljkaaa.Print

namespace Go.Proofs.Ytahidkjncljkaaa.Print
open Go.RowKit Go.Proofs.YtahidkjncljkaaaW.PrintWords Go.Proofs.YtahidkjncljkaaaW.PrintLast Go.Proofs.YtahidkjncljkaaaW.PrintMore
attribute [local go_sem] max2_int min2_int max_two min_two max_three min_three max_four min_four

def TopIs (l t:List (S39)):Prop:=t.Perm l∧t.Pairwise (fun x y=> ¬cmpW (fillR l) y.f0 x.f0<0)
noncomputable def want_Top.f (l0:List (S39)):Option (List (S39)):=open Classical in if h:l0.length≤1000∧smallW l0∧ ∃t,TopIs l0 t∧ ∀t',TopIs l0 t'→t'=t then some h.2.2.choose else none
set_option maxHeartbeats 8000000 in
set_option maxRecDepth 100000 in
theorem want_Top.calls (A0:Option Addr) (c0:Nat) (l0:List (S39)) (r:List (S39)) (w:World) (hr0:Kd.C k39 w A0 l0.length l0) (hc0:l0.length≤c0) (h:want_Top.f l0=some r):
    Calls Try.prog 30 #[.slice A0 l0.length c0] w fun e w'=> ∃v0_:Value,e= .returned (v0_)∧Kd.R k39 39 w' w.heap.size (fun _=>True) v0_ r∧Below w.heap.size w w':=by
  unfold want_Top.f at h
  split at h
  rotate_left
  · cases h


  rename_i hh
  have hlim:slices_Clone_Want.f l0=some l0:=by unfold slices_Clone_Want.f;rw [if_pos (by have:=hh.1;omega)]
  have UQ:=am_ (show∀t',TopIs l0 t'→t'=r from by
    have q:=Option.some.inj h
    subst q
    have s:=hh.2.2.choose_spec
    exact s.2)
  obtain ⟨hl,hs,_⟩:=hh
  clear h
  have hu113:=Try.underlying113
  have hcall:=wantMade_calls A0 c0 l0 w hr0 hc0 hl hs
  have HR:=Aside0.mk hr0
  have HC:=Aside0.mk hc0
  have HL:=Aside0.mk hl
  have HS:=am_ (show∀x∈l0,x.f0.size≤maxLen from fun x hx=>by have:=(hs x hx).1;unfold maxLen;omega)
  have LM:=Aside0.mk hlim
  clear hr0 hc0 hl hs hlim
  go_enter Try.func30,Try.ntmps30
  go_wp2_with (first|(go_at_call 76;refine hcall.mono ?_;rintro e w3 ⟨b,mb,n,rfl,hgb,hbk,hm,hb⟩;have BK:=Aside0.mk hbk;have MP:=Aside0.mk hm;have HB:=Aside0.mk hb;clear hgb hbk hm hb hcall)|((with_reducible refine gate_dst (N:=3) rfl ?_);refine bx_ (N:=3) (cs:=#[.pointer none]) (t:=108) ?_;intro gb3 hg w4 hbox hb;have hbl:=blk_lt BK.out;replace BK:=am_ (blk_below BK.out hb);have BK3:=am_ (hbox);have GE3:=am_ ((by rw [hg];exact below_size HB.out:w.heap.size≤gb3));replace HB:=am_ (below_step HB.out hb);have EQ3:=am_ (hg);have NEB:=am_ (show b≠gb3 from by have:=hbl;rw [EQ3.out];exact Nat.ne_of_lt this);have NEM:=am_ (show mb≠gb3 from by have:=MP.out.lt;rw [EQ3.out];exact Nat.ne_of_lt this);have m_:=am_ (MP.out.below hb);clear MP;have MP:=m_;clear m_ hbl hb hbox hg)|((with_reducible refine gate_store (t:=108) (p:=3) (v:= .tmp 6) rfl ?_);refine store_all BK3.out 108 (.tmp 3) (.tmp 6) rfl rfl rfl (.pointer (some ⟨b,0,none⟩)) [.pointer (some ⟨b,0,none⟩)] rfl rfl rfl (by kernel_rfl) rfl (by intro q hq;simp only [List.mem_cons,List.not_mem_nil,or_false] at hq;rcases hq with rfl<;>rfl) ?_;intro w5 hbk hg;replace BK:=am_ (blk_put_other BK.out hg (NEB.out));replace HB:=am_ (below_put HB.out (below_size HB.out) hg GE3.out);replace MP:=am_ (MP.out.other hg NEM.out);replace BK3:=am_ (hbk);clear hbk hg)|(go_at_call 77;refine (slices_Clone_Want.calls A0 c0 l0 l0 _ (Kd.C_below HR.out HB.out) HC.out LM.out).mono ?_;rintro e w6 ⟨v,rfl,hr,hb⟩;have HNE:=am_ (show∀k,v.ownBlock=some k→mb≠k∧w.heap.size≤k from fun k hk=>by (have q:_≤k:=(by obtain ⟨_,inner,q,_⟩:=hr;exact own_base q k hk);have:=MP.out.lt;have:=below_size HB.out;omega));have n0_:=am_ (Kd.R_lower hr (below_size HB.out));have n1_:=am_ (blk_below BK.out hb);have n2_:=am_ (blk_below BK3.out hb);have n3_:=am_ (MP.out.below hb);have n4_:=am_ (below_step HB.out hb);clear BK BK3 MP HB hr hb;have HV:=n0_;have BK:=n1_;have BK3:=n2_;have MP:=n3_;have HB:=n4_;clear n0_ n1_ n2_ n3_ n4_)|(go_at_call 78;refine (sortWants_calls (fillR l0) BK3.out BK.out MP.out HV.out HS.out HL.out (fun k hk=>(HNE.out k hk).1)).mono ?_;rintro e w7 ⟨rfl,l',hr,hp,hso,hg⟩;have HO:=am_ (show Kd.R k39 39 w7 w.heap.size (fun _=>True) v r from UQ.out l' ⟨hp,hso⟩▸hr);have n0_:=am_ (pw_below_grown HB.out v.ownBlock (below_size HB.out) hg (fun k hk=>(HNE.out k hk).2));clear HV BK BK3 MP HB hr hp hso hg;have HB:=n0_;clear n0_))
  go_ret
  exact ⟨_,rfl,HO.out,HB.out⟩
def vecByF (op:Int→Int→Int):List S37→Int→Int→Int→Int×Int×Int
 |[],a,b,d=>(a,b,d)
 |v::l,a,b,d=>vecByF op l (op a v.f0) (op b v.f1) (op d v.f2)
theorem vecByF_snoc (op:Int→Int→Int) (v:S37): ∀(l:List S37) (a b d:Int),vecByF op (l++ [v]) a b d=(op (vecByF op l a b d).1 v.f0,op (vecByF op l a b d).2.1 v.f1,op (vecByF op l a b d).2.2 v.f2)
 |[],_,_,_=>rfl
 |_::l,_,_,_=>vecByF_snoc op v l _ _ _
theorem vecByF_take (op:Int→Int→Int) (l:List S37) (a b d:Int) (i:Nat) (h:i<l.length):vecByF op (l.take (i+1)) a b d=(op (vecByF op (l.take i) a b d).1 (rd_T37 l i).f0,op (vecByF op (l.take i) a b d).2.1 (rd_T37 l i).f1,op (vecByF op (l.take i) a b d).2.2 (rd_T37 l i).f2):=by
 have e:rd_T37 l i=l[i]:=by simp [rd_T37,h]
 rw [List.take_succ_eq_append_getElem h,vecByF_snoc,e]
set_option maxHeartbeats 1000000 in
set_option maxRecDepth 100000 in
theorem vecBy_calls (g:Nat) (op:Int→Int→Int) (eg: ∀args w,(callFunc g args).run Try.prog w= .ok (.enter g args) w) (hop: ∀x y W,Calls Try.prog g #[.int .i64 x, .int .i64 y] W fun e w'=>e= .returned (.int .i64 (op x y))∧w'=W)
    (A:Option Addr) (c:Nat) (l:List S37) (a b d:Int) (w:World) (hr0:Kd.C k37 w A l.length l) (hc0:l.length≤c) (hm:l.length≤maxLen):
    Calls Try.prog 145 #[.func (.func g) #[] #[], .agg #[.int .i64 a, .int .i64 b, .int .i64 d], .slice A l.length c] w fun e w'=>e= .returned (.agg #[.int .i64 (vecByF op l a b d).1, .int .i64 (vecByF op l a b d).2.1, .int .i64 (vecByF op l a b d).2.2])∧Below w.heap.size w w':=by
  have hu37:=Try.underlying37
  have HR0:=Aside0.mk hr0
  have HOP:=Aside0.mk hop
  have HEG:=Aside0.mk eg
  have HBT:=am_ (vecByF_take op l a b d)
  clear hr0 hop eg
  unfold maxLen at hm
  go_enter Try.func145,Try.ntmps145
  go_wp2
  go_loopg [11] l.length (fun kq s11 wr=> ∃i:Nat,i≤l.length∧l.length - i≤kq∧s11= .int .i64 i∧Aside0 (Below w.heap.size w wr)∧Aside0 (wr.heap[w.heap.size]?=some (.cells #[.int .i64 (vecByF op (l.take i) a b d).1, .int .i64 (vecByF op (l.take i) a b d).2.1, .int .i64 (vecByF op (l.take i) a b d).2.2] 37 (0,0)))∧Aside0 (wr.heap[w.heap.size+1]?=some (.cells #[.int .i64 0, .int .i64 0, .int .i64 0] 37 (0,0))))
  case atStart=>
    exact ⟨0,by omega,by omega,rfl,⟨below_alloc (below_alloc (Below.refl _ _) _) _⟩,⟨blk_alloc (blk_new _ _) _⟩,⟨by have:=blk_new (w.alloc (.cells #[.int .i64 a, .int .i64 b, .int .i64 d] 37)) (.cells #[.int .i64 0, .int .i64 0, .int .i64 0] 37);simpa using this⟩⟩
  case round=>
    obtain ⟨i,hi,hg,rfl,HB,HF,HZ⟩:=hrel
    generalize hq:vecByF op (l.take i) a b d=q at HF
    have HQ:=Aside0.mk hq
    clear hq
    by_cases hlt:i<l.length
    rotate_left
    · obtain rfl : i = l.length := by omega
      have hq:q=vecByF op l a b d:=HQ.out.symm.trans (by rw [List.take_length])
      subst hq
      have HQ':=HQ
      clear HQ HBT
      have f0:=(blk_cell HF.out 0).trans rfl
      have f1:=(blk_cell HF.out 1).trans rfl
      have f2:=(blk_cell HF.out 2).trans rfl
      have g0:=(blk_cell HZ.out 0).trans rfl
      have g1:=(blk_cell HZ.out 1).trans rfl
      have g2:=(blk_cell HZ.out 2).trans rfl
      have z0:=blk_frozen HZ.out 0
      have z1:=blk_frozen HZ.out 1
      have z2:=blk_frozen HZ.out 2
      have hs1:w.heap.size+1<wr.heap.size:=blk_lt HZ.out
      go_wp2
      refine bodyPost_ret (results_cell_row rfl _ _ (w.heap.size+1) 37 #[.int .i64 (vecByF op l a b d).1, .int .i64 (vecByF op l a b d).2.1, .int .i64 (vecByF op l a b d).2.2] (0,0) _ rfl (blk_put (blk_put (blk_put HZ.out 0 _ rfl) 1 _ rfl) 2 _ rfl) Try.underlying37 rfl (by kernel_rfl)) rfl ?_
      exact ⟨rfl,below_set (below_set (below_set HB.out (Nat.le_succ _)) (Nat.le_succ _)) (Nat.le_succ _)⟩


    have hltz:(i:Int)<(l.length:Int):=by omega
    obtain ⟨ad,e1,h0,h1,h2⟩:=at_T37 HR0.out (i:Int) (by omega) (by omega)
    cases e1
    simp only [Int.toNat_natCast] at h0 h1 h2
    replace h0:=zx_ HB h0
    replace h1:=zx_ HB h1
    replace h2:=zx_ HB h2
    have hsz:w.heap.size+1<wr.heap.size:=blk_lt HZ.out
    go_wp2
    obtain ⟨W1,hW1⟩: ∃W1,W1=(wr.alloc (.cells #[.int .i64 (rd_T37 l i).f0, .int .i64 (rd_T37 l i).f1, .int .i64 (rd_T37 l i).f2] 37)).drew:=⟨_,rfl⟩
    have hF1:W1.heap[w.heap.size]?=some (.cells #[.int .i64 q.1, .int .i64 q.2.1, .int .i64 q.2.2] 37 (0,0)):=by rw [hW1];exact blk_alloc HF.out _
    have hZ1:W1.heap[w.heap.size+1]?=some (.cells #[.int .i64 0, .int .i64 0, .int .i64 0] 37 (0,0)):=by rw [hW1];exact blk_alloc HZ.out _
    have hV1:W1.heap[wr.heap.size]?=some (.cells #[.int .i64 (rd_T37 l i).f0, .int .i64 (rd_T37 l i).f1, .int .i64 (rd_T37 l i).f2] 37 (0,0)):=by rw [hW1];exact blk_new _ _
    have hB1:Below w.heap.size w W1:=by rw [hW1];exact below_drew (below_alloc HB.out _)
    refine wp_region_still_tail 19 (by kernel_rfl) (by kernel_rfl) ?_
    change wpStill _ _ (World.drew _) _ _ _
    rw [←hW1]
    simp only [List.take_succ_cons,List.take_zero,List.drop_succ_cons,List.drop_zero]
    have HV1:=Aside0.mk hV1
    have HF1:=Aside0.mk hF1
    have HZ1:=Aside0.mk hZ1
    have HB1:=Aside0.mk hB1
    have f0:=(blk_cell hF1 0).trans rfl
    have f1:=(blk_cell hF1 1).trans rfl
    have f2:=(blk_cell hF1 2).trans rfl
    have g0:=(blk_cell hV1 0).trans rfl
    have g1:=(blk_cell hV1 1).trans rfl
    have g2:=(blk_cell hV1 2).trans rfl
    have HW1:=Aside0.mk hW1
    clear hW1 hF1 hZ1 hV1 hB1
    have eg:=HEG.out
    repeat still_step
    still_call (HOP.out _ _ _)
    repeat still_step
    still_call (HOP.out _ _ _)
    repeat still_step
    still_call (HOP.out _ _ _)
    repeat still_step
    refine wpStill_nil ?_
    change wpList _ _ _ _ _ (World.drew _)
    rw [←HW1.out]
    have z0:=blk_frozen HF1.out 0
    have z1:=blk_frozen HF1.out 1
    have z2:=blk_frozen HF1.out 2
    have hs1:w.heap.size<W1.heap.size:=blk_lt HF1.out
    go_wp2
    have hb:=HBT.out i hlt
    rw [HQ.out] at hb
    have HH:=Aside0.mk hb
    clear hb
    go_roundg (l.length - (i+1))
    case measure=>omega
    case rel=>
      refine ⟨i+1,by omega,by omega,by go_num,⟨below_set (below_set (below_set HB1.out (Nat.le_refl _)) (Nat.le_refl _)) (Nat.le_refl _)⟩,⟨?_⟩,⟨blk_far (blk_far (blk_far HZ1.out (by simp) _) (by simp) _) (by simp) _⟩⟩
      rw [HH.out]
      exact blk_put (blk_put (blk_put HF1.out 0 _ rfl) 1 _ rfl) 2 _ rfl
theorem vecAdd1_calls (x y:Int) (W:World):Calls Try.prog 146 #[.int .i64 x, .int .i64 y] W fun e w'=>e= .returned (.int .i64 (wrap64 (x+y)))∧w'=W:=by
 go_enter Try.func146,Try.ntmps146
 go_wp2
 go_ret
 exact ⟨rfl,rfl⟩
def vec_Add.f (l0:List (S37)):Option (Int×Int×Int):=some (vecByF (fun x y=>wrap64 (x+y)) l0 0 0 0)
set_option maxHeartbeats 1000000 in
set_option maxRecDepth 100000 in
theorem vec_Add.calls (A0:Option Addr) (c0:Nat) (l0:List (S37)) (r1:Int) (r2:Int) (r3:Int) (w:World) (hr0:Kd.C k37 w A0 l0.length l0) (hc0:l0.length≤c0) (h:vec_Add.f l0=some (r1,r2,r3)):
  Calls Try.prog 115 #[.slice A0 l0.length c0] w fun e w'=>e= .returned (.agg #[.int .i64 r1, .int .i64 r2, .int .i64 r3])∧Below w.heap.size w w':=by
 have hu37:=Try.underlying37
 have hm:l0.length≤maxLen:=hr0.2.1
 have HC:=am_ (vecBy_calls 146 (fun x y=>wrap64 (x+y)) (enters_of Try.func146 (by kernel_rfl) rfl) vecAdd1_calls A0 c0 l0 0 0 0 (w.alloc (.cells #[.int .i64 0, .int .i64 0, .int .i64 0] 37)) (Kd.C_below hr0 (below_alloc (Below.refl _ _) _)) hc0 hm)
 have HH:=Aside0.mk h
 clear hr0 h
 go_enter Try.func115,Try.ntmps115
 go_wp2_with fail
 refine HC.out.mono ?_
 rintro e w1 ⟨rfl,hb⟩
 have h:=Option.some.inj (show some (vecByF (fun x y=>wrap64 (x+y)) l0 0 0 0)=some (r1,r2,r3) from HH.out)
 rw [h]
 have hZ:=blk_below (blk_new w (.cells #[.int .i64 0, .int .i64 0, .int .i64 0] 37)) hb
 have HB:=Aside0.mk hb
 have HZ:=Aside0.mk hZ
 clear h hb hZ
 have g0:=(blk_cell HZ.out 0).trans rfl
 have g1:=(blk_cell HZ.out 1).trans rfl
 have g2:=(blk_cell HZ.out 2).trans rfl
 have z0:=blk_frozen HZ.out 0
 have z1:=blk_frozen HZ.out 1
 have z2:=blk_frozen HZ.out 2
 have hs1:w.heap.size<w1.heap.size:=blk_lt HZ.out
 go_wp2
 refine bodyPost_ret (results_cell_row rfl _ _ w.heap.size 37 #[.int .i64 r1, .int .i64 r2, .int .i64 r3] (0,0) _ rfl (blk_put (blk_put (blk_put HZ.out 0 _ rfl) 1 _ rfl) 2 _ rfl) Try.underlying37 rfl (by kernel_rfl)) rfl ?_
 exact ⟨rfl,below_set (below_set (below_set (below_step (below_alloc (Below.refl _ _) _) HB.out) (Nat.le_refl _)) (Nat.le_refl _)) (Nat.le_refl _)⟩


mutual
def want_list_sums.l0:Nat→List (S39)→Int→Int→List (S39)→Option (Int)
 |0,_,_,_,_=>none
 |k+1,x9,x10,x11,x2000=>if x11<x10 then (if 0≤x11 then (if x11<(x9.length:Int) then (want_list_sums.l1 k ([]:List (S37)) x9 x10 x11 x2000 (x2000.length:Int) 0 x2000 ((rd_T39 x9 x11).f0) ((rd_T39 x9 x11).f1) ((rd_T39 x9 x11).f2.f0) ((rd_T39 x9 x11).f2.f1) ((rd_T39 x9 x11).f2.f2)) else (none)) else (none)) else (some 0)
def want_list_sums.l1:Nat→List (S37)→List (S39)→Int→Int→List (S39)→Int→Int→List (S39)→ByteArray→ByteArray→Int→Int→Int→Option (Int)
 |0,_,_,_,_,_,_,_,_,_,_,_,_,_=>none
 |k+1,x5,x9,x10,x11,x16,x17,x18,x2000,x4000,x4001,x4002,x4003,x4004=>if x18<x17 then (if 0≤x18 then (if x18<(x16.length:Int) then (if ((rd_T39 x16 x18).f1).toList=x4000.toList then (if x5.length<5864062014805 then (want_list_sums.l1 k (x5++ [(⟨(rd_T39 x16 x18).f2.f0,(rd_T39 x16 x18).f2.f1,(rd_T39 x16 x18).f2.f2⟩:S37)]) x9 x10 x11 x16 x17 (wrap64 (x18+1)) x2000 x4000 x4001 x4002 x4003 x4004) else (none)) else (want_list_sums.l1 k x5 x9 x10 x11 x16 x17 (wrap64 (x18+1)) x2000 x4000 x4001 x4002 x4003 x4004)) else (none)) else (none)) else ((vec_Add.f x5).bind fun bt9=>((vec_Le.f bt9.1 bt9.2.1 bt9.2.2 x4002 x4003 x4004).bind fun t12=>(if t12=true then (want_list_sums.l0 k x9 x10 (wrap64 (x11+1)) x2000) else (some 11))))
end
def want_list_sums.f (k:Nat) (l0_0:List (S39)):Option (Int):=want_list_sums.l0 k l0_0 (l0_0.length:Int) 0 l0_0
theorem want_list_sums.mono_l: ∀k,(∀y0 y1 y2 y3,LeO (want_list_sums.l0 k y0 y1 y2 y3) (want_list_sums.l0 (k+1) y0 y1 y2 y3))∧(∀y0 y1 y2 y3 y4 y5 y6 y7 y8 y9 y10 y11 y12,LeO (want_list_sums.l1 k y0 y1 y2 y3 y4 y5 y6 y7 y8 y9 y10 y11 y12) (want_list_sums.l1 (k+1) y0 y1 y2 y3 y4 y5 y6 y7 y8 y9 y10 y11 y12))
 |0=>⟨fun _ _ _ _ r h=>by simp [want_list_sums.l0] at h,fun _ _ _ _ _ _ _ _ _ _ _ _ _ r h=>by simp [want_list_sums.l1] at h⟩
 |k+1=>by
  obtain ⟨ih0,ih1⟩:=want_list_sums.mono_l k
  refine ⟨?_, ?_⟩
  ·intro y0 y1 y2 y3
   unfold want_list_sums.l0
   repeat' first
   |(with_reducible exact ih0 _ _ _ _)
   |(with_reducible exact ih1 _ _ _ _ _ _ _ _ _ _ _ _ _)
   |(with_reducible exact LeO.refl _)
   |(with_reducible exact LeO.none _)
   |(with_reducible refine LeO.ite ?_ ?_)
   |(with_reducible refine LeO.bind ?_ (fun _=> ?_))
   |exact ih0 _ _ _ _
   |exact ih1 _ _ _ _ _ _ _ _ _ _ _ _ _
   |exact LeO.none _
   |refine LeO.ite ?_ ?_
   |refine LeO.bind ?_ (fun _=> ?_)
  intro y0 y1 y2 y3 y4 y5 y6 y7 y8 y9 y10 y11 y12
  unfold want_list_sums.l1
  repeat' first
  |(with_reducible exact ih0 _ _ _ _)
  |(with_reducible exact ih1 _ _ _ _ _ _ _ _ _ _ _ _ _)
  |(with_reducible exact LeO.refl _)
  |(with_reducible exact LeO.none _)
  |(with_reducible refine LeO.ite ?_ ?_)
  |(with_reducible refine LeO.bind ?_ (fun _=> ?_))
  |exact ih0 _ _ _ _
  |exact ih1 _ _ _ _ _ _ _ _ _ _ _ _ _
  |exact LeO.none _
  |refine LeO.ite ?_ ?_
  |refine LeO.bind ?_ (fun _=> ?_)
theorem want_list_sums.mono: ∀a0 k,LeO (want_list_sums.f k a0) (want_list_sums.f (k+1) a0):=by
 intro a0 k
 obtain ⟨ih0,ih1⟩:=want_list_sums.mono_l k
 unfold want_list_sums.f
 repeat' first
  |(with_reducible exact ih0 _ _ _ _)
  |(with_reducible exact ih1 _ _ _ _ _ _ _ _ _ _ _ _ _)
  |(with_reducible exact LeO.refl _)
  |(with_reducible exact LeO.none _)
  |(with_reducible refine LeO.ite ?_ ?_)
  |(with_reducible refine LeO.bind ?_ (fun _=> ?_))
  |exact ih0 _ _ _ _
  |exact ih1 _ _ _ _ _ _ _ _ _ _ _ _ _
  |exact LeO.none _
  |refine LeO.ite ?_ ?_
  |refine LeO.bind ?_ (fun _=> ?_)
set_option maxHeartbeats 8000000 in
set_option maxRecDepth 100000 in
theorem want_list_sums.calls (k:Nat) (A0_0:Option Addr) (c0_0:Nat) (l0_0:List (S39)) (r:Int) (w:World) (hr0_0:Kd.C k39 w A0_0 l0_0.length l0_0) (hc0_0:l0_0.length≤c0_0) (h:want_list_sums.f k l0_0=some r):
  Calls Try.prog 75 #[.agg #[.slice A0_0 l0_0.length c0_0]] w fun e w'=>e= .returned (.int .i64 r)∧Below w.heap.size w w':=by
 have hu110:=Try.underlying110
 have hu39:=Try.underlying39
 have hu37:=Try.underlying37
 have HR0_0:=Aside0.mk hr0_0
 have HC0_0:=Aside0.mk hc0_0
 clear hr0_0 hc0_0
 have HB:=am_ (Below.refl w.heap.size w)
 have H:(want_list_sums.l0 k l0_0 (l0_0.length:Int) 0 l0_0)=some r:=h
 clear h
 have H':=Aside0.mk H
 clear H
 go_enter Try.func75,Try.ntmps75
 go_wp2_with (first|((with_reducible refine gate_dst (N:=1) rfl ?_);refine bx_ (N:=1) (cs:=#[.slice A0_0 l0_0.length c0_0]) (t:=110) ?_;intro gb1 hg w2 hbox hb;have BK1:=am_ (hbox);have GW1:=am_ ((zg0_ HB hg:w.heap.size≤gb1));have GE1:=am_ ((zg0_ HB hg:w.heap.size≤gb1));replace HB:=am_ (below_step (zl0_ HB) hb);clear hb hbox hg;have hcz3_0:=zz_ BK1 0;have hfz3_0:=blk_frozen BK1.out 0))
 go_loopg [11] k (fun kq v11 w'=> ∃(x11_1:Int),v11= .int .i64 x11_1∧Aside0 (want_list_sums.l0 kq l0_0 (l0_0.length:Int) x11_1 l0_0=some r)∧Aside0 (kq≤k)∧Aside0 (w'.heap[gb1]?=some (.cells #[(.slice A0_0 l0_0.length c0_0)] 110 (0,0)))∧Aside0 (Below w.heap.size w w'))
 case atStart=>exact ⟨(0),(by first|rfl|(simp;done)|(simp [*];done)),H',⟨Nat.le_refl _⟩,⟨by refine zk_ ?_;exact BK1.out⟩,⟨zl1_ HB GE1⟩⟩
 case round=>
  clear H'
  try clear p2
  try clear hcz3_0
  try clear hfz3_0
  obtain ⟨x11_1,rfl,HA,HK1,BK1,HB⟩:=hrel
  cases gk with
  |zero=>exact absurd HA.out (by simp [want_list_sums.l0])
  |succ k1=>
   have H:=HA.out
   clear HA
   simp only [want_list_sums.l0] at H
   by_cases c4:x11_1<(l0_0.length:Int)
   rotate_left
   ·rw [if_neg c4] at H
    have c4b0:decide (x11_1<(l0_0.length:Int))=false:=decide_eq_false c4
    clear c4
    obtain rfl:=Option.some.inj H
    go_wp2
    go_ret
    exact ⟨by first|rfl|(simp [errW_none,errW_some]<;>rfl)|(simp [*,errW_none,errW_some]<;>rfl),zl1_ HB GE1⟩

   rw [if_pos c4] at H
   have c4b0:decide (x11_1<(l0_0.length:Int))=true:=decide_eq_true c4
   clear c4
   by_cases c5:0≤x11_1
   rotate_left
   ·rw [if_neg c5] at H
    exact absurd H (by simp)
   rw [if_pos c5] at H
   have c5b0:decide (0≤x11_1)=true:=decide_eq_true c5
   clear c5
   by_cases c6:x11_1<(l0_0.length:Int)
   rotate_left
   ·rw [if_neg c6] at H
    exact absurd H (by simp)
   rw [if_pos c6] at H
   have c6b0:decide (x11_1<(l0_0.length:Int))=true:=decide_eq_true c6
   clear c6
   have H':=Aside0.mk H
   clear H
   have p2:0≤(x11_1:Int):=of_decide_eq_true zq_
   have q2:x11_1<(l0_0.length:Int):=of_decide_eq_true zq_
   obtain ⟨ad2,e2,hx2_0,hx2_1,hx2_2,hx2_3,hx2_4⟩:=at_T39 HR0_0.out x11_1 p2 q2
   cases e2
   replace hx2_0:=zx_ HB hx2_0
   replace hx2_1:=zx_ HB hx2_1
   replace hx2_2:=zx_ HB hx2_2
   replace hx2_3:=zx_ HB hx2_3
   replace hx2_4:=zx_ HB hx2_4
   replace p2:=eq_true p2
   replace q2:=eq_true q2
   go_wp2_with (first|((with_reducible refine gate_dst (N:=4) rfl ?_);refine bx_ (N:=4) (cs:=#[.string (⟨#[]⟩:ByteArray), .string (⟨#[]⟩:ByteArray), .int .i64 0, .int .i64 0, .int .i64 0]) (t:=39) ?_;intro gb3 hg w7 hbox hb;have BK3:=am_ (hbox);have GW3:=am_ ((zg1_ HB GE1 hg:w.heap.size≤gb3));have GE3:=am_ ((zg1_ HB GE1 hg:w.heap.size≤gb3));replace HB:=am_ (below_step (zl1_ HB GE1) hb);have NB1_3:=am_ ((zn_ BK1 hg:gb1≠gb3));have NB3_1:=am_ ((zm_ BK1 hg:gb3≠gb1));replace BK1:=am_ (blk_below (zb_ BK1) hb);clear hb hbox hg;have hnb8:=NB3_1.out;have hnc8:=NB1_3.out;obtain ⟨hcz9_0,hcz9_1,hcz9_2,hcz9_3,hcz9_4,hfz9_0,hfz9_1,hfz9_2,hfz9_3,hfz9_4⟩:=y5_ BK3;have hcz10_0:=zz_ BK1 0;have hfz10_0:=blk_frozen BK1.out 0))
   go_loopg [5,18] k1 (fun kq v5 v18 w'=> ∃(x5_2:List (S37)) (x18_2:Int),v18= .int .i64 x18_2∧Aside0 (want_list_sums.l1 kq x5_2 l0_0 (l0_0.length:Int) x11_1 l0_0 (l0_0.length:Int) x18_2 l0_0 ((rd_T39 l0_0 x11_1).f0) ((rd_T39 l0_0 x11_1).f1) ((rd_T39 l0_0 x11_1).f2.f0) ((rd_T39 l0_0 x11_1).f2.f1) ((rd_T39 l0_0 x11_1).f2.f2)=some r)∧Aside0 (kq≤k1)∧Aside0 (Kd.R k37 37 w' w.heap.size (fun _=>True) v5 x5_2)∧Aside0 (w'.heap[gb1]?=some (.cells #[(.slice (some ad2) l0_0.length c0_0)] 110 (0,0)))∧Aside0 (w'.heap[gb3]?=some (.cells #[.string ((rd_T39 l0_0 x11_1).f0), .string ((rd_T39 l0_0 x11_1).f1), .int .i64 ((rd_T39 l0_0 x11_1).f2.f0), .int .i64 ((rd_T39 l0_0 x11_1).f2.f1), .int .i64 ((rd_T39 l0_0 x11_1).f2.f2)] 39 (0,0)))∧Aside0 (Below w.heap.size w w'))
   case atStart=>exact ⟨(([]:List (S37))),(0),(by first|rfl|(simp;done)|(simp [*];done)),H',⟨Nat.le_refl _⟩,⟨by first|exact Kd.R_nil _ _ _ _ _|exact Kd.N_nil _ _ _ _ _|exact Kd.V_nil _ _ _ _ _|exact Kd.Q_nil _ _ _ _ _|exact Kd.S_nil _ _ _ _ _⟩,⟨zw_ BK1⟩,⟨zw_ BK3⟩,⟨zl2_ HB GE1 GE3⟩⟩
   case round=>
    clear H'
    try clear p2
    try clear q2
    try clear hx2
    try clear c4
    try clear c4b0
    try clear c5
    try clear c5b0
    try clear c6
    try clear c6b0
    try clear c7
    try clear c8
    try clear hcz10_0
    try clear hcz3_0
    try clear hcz9_0
    try clear hcz9_1
    try clear hcz9_2
    try clear hcz9_3
    try clear hcz9_4
    try clear hfz10_0
    try clear hfz3_0
    try clear hfz9_0
    try clear hfz9_1
    try clear hfz9_2
    try clear hfz9_3
    try clear hfz9_4
    try clear hx2_0
    try clear hx2_1
    try clear hx2_2
    try clear hx2_3
    try clear hx2_4
    try clear p2
    try clear q2
    obtain ⟨x5_2,x18_2,rfl,HA,HK2,HO_5,BK1,BK3,HB⟩:=hrel
    cases gk with
    |zero=>exact absurd HA.out (by simp [want_list_sums.l1])
    |succ k2=>
     have H:=HA.out
     clear HA
     simp only [want_list_sums.l1] at H
     by_cases c11:x18_2<(l0_0.length:Int)
     ·rw [if_pos c11] at H
      have c11b0:decide (x18_2<(l0_0.length:Int))=true:=decide_eq_true c11
      clear c11
      by_cases c12:0≤x18_2
      rotate_left
      ·rw [if_neg c12] at H
       exact absurd H (by simp)
      rw [if_pos c12] at H
      have c12b0:decide (0≤x18_2)=true:=decide_eq_true c12
      clear c12
      by_cases c13:x18_2<(l0_0.length:Int)
      rotate_left
      ·rw [if_neg c13] at H
       exact absurd H (by simp)
      rw [if_pos c13] at H
      have c13b0:decide (x18_2<(l0_0.length:Int))=true:=decide_eq_true c13
      clear c13
      by_cases c14:((rd_T39 l0_0 x18_2).f1).toList=((rd_T39 l0_0 x11_1).f0).toList
      rotate_left
      ·rw [if_neg c14] at H
       have c14b0:(((rd_T39 l0_0 x18_2).f1).toList==((rd_T39 l0_0 x11_1).f0).toList)=false:=beq_eq_false_iff_ne.mpr c14
       have c14b1:(((rd_T39 l0_0 x18_2).f1).toList !=((rd_T39 l0_0 x11_1).f0).toList)=true:=bne_iff_ne.mpr c14
       have H':=Aside0.mk H
       clear H
       have p4:0≤(x18_2:Int):=of_decide_eq_true zq_
       have q4:x18_2<(l0_0.length:Int):=of_decide_eq_true zq_
       obtain ⟨ad4,e4,hx4_0,hx4_1,hx4_2,hx4_3,hx4_4⟩:=at_T39 HR0_0.out x18_2 p4 q4
       obtain rfl:ad2=ad4:=(by injection e4)
       replace hx4_0:=zx_ HB hx4_0
       replace hx4_1:=zx_ HB hx4_1
       replace hx4_2:=zx_ HB hx4_2
       replace hx4_3:=zx_ HB hx4_3
       replace hx4_4:=zx_ HB hx4_4
       replace p4:=eq_true p4
       replace q4:=eq_true q4
       go_wp2_with (first|((with_reducible refine gate_dst (N:=7) rfl ?_);refine bx_ (N:=7) (cs:=#[.string (⟨#[]⟩:ByteArray), .string (⟨#[]⟩:ByteArray), .int .i64 0, .int .i64 0, .int .i64 0]) (t:=39) ?_;intro gb5 hg w23 hbox hb;replace HO_5:=am_ (Kd.R_below (zr_ HO_5) hb);have BK5:=am_ (hbox);have GW5:=am_ ((zg2_ HB GE1 GE3 hg:w.heap.size≤gb5));have GE5:=am_ ((zg2_ HB GE1 GE3 hg:w.heap.size≤gb5));replace HB:=am_ (below_step (zl2_ HB GE1 GE3) hb);have NB1_5:=am_ ((zn_ BK1 hg:gb1≠gb5));have NB5_1:=am_ ((zm_ BK1 hg:gb5≠gb1));replace BK1:=am_ (blk_below (zb_ BK1) hb);have NB3_5:=am_ ((zn_ BK3 hg:gb3≠gb5));have NB5_3:=am_ ((zm_ BK3 hg:gb5≠gb3));replace BK3:=am_ (blk_below (zb_ BK3) hb);clear hb hbox hg;have hnb24:=NB5_1.out;have hnc24:=NB1_5.out;have hnb25:=NB5_3.out;have hnc25:=NB3_5.out;obtain ⟨hcz26_0,hcz26_1,hcz26_2,hcz26_3,hcz26_4,hfz26_0,hfz26_1,hfz26_2,hfz26_3,hfz26_4⟩:=y5_ BK5;have hnb27:=NB3_1.out;have hnc27:=NB1_3.out;obtain ⟨hcz28_0,hcz28_1,hcz28_2,hcz28_3,hcz28_4⟩:=x5_ BK3;have hfz28_0:=blk_frozen BK3.out 0;have hfz28_1:=blk_frozen BK3.out 1;have hfz28_2:=blk_frozen BK3.out 2;have hfz28_3:=blk_frozen BK3.out 3;have hfz28_4:=blk_frozen BK3.out 4))
       go_roundg k2
       case measure=>have:=HK1.out;have:=HK2.out;omega
       case rel=>exact ⟨(x5_2),(wrap64 (x18_2+1)),(by first|rfl|(simp;done)|(simp [*];done)),H',⟨by have:=HK1.out;have:=HK2.out;omega⟩,⟨zy_ HO_5 BK5⟩,⟨zw_ BK1⟩,⟨zw_ BK3⟩,⟨zl3_ HB GE1 GE3 GE5⟩⟩
      rw [if_pos c14] at H
      have c14b0:(((rd_T39 l0_0 x18_2).f1).toList==((rd_T39 l0_0 x11_1).f0).toList)=true:=beq_iff_eq.mpr c14
      have c14b1:(((rd_T39 l0_0 x18_2).f1).toList !=((rd_T39 l0_0 x11_1).f0).toList)=false:=bne_eq_false_iff_eq.mpr c14
      clear c14
      by_cases c15:x5_2.length<5864062014805
      rotate_left
      ·rw [if_neg c15] at H
       exact absurd H (by simp)
      rw [if_pos c15] at H
      have LMc15:=Aside0.mk c15
      clear c15
      obtain ⟨y6,hy6⟩: ∃y_:List (S37),y_=(x5_2++ [(⟨(rd_T39 l0_0 x18_2).f2.f0,(rd_T39 l0_0 x18_2).f2.f1,(rd_T39 l0_0 x18_2).f2.f2⟩:S37)]):=⟨_,rfl⟩
      replace H:(want_list_sums.l1 k2 y6 l0_0 (l0_0.length:Int) x11_1 l0_0 (l0_0.length:Int) (wrap64 (x18_2+1)) l0_0 ((rd_T39 l0_0 x11_1).f0) ((rd_T39 l0_0 x11_1).f1) ((rd_T39 l0_0 x11_1).f2.f0) ((rd_T39 l0_0 x11_1).f2.f1) ((rd_T39 l0_0 x11_1).f2.f2))=some r:=by first|(rw [hy6];with_reducible exact H)|(have H2_:=(Option.bind_some _ _).symm.trans H;rw [hy6];with_reducible exact H2_)|(have H2_:=(Option.bind_some _ _).symm.trans H;with_reducible exact H2_)|with_reducible exact H|(rw [hy6];exact H)|exact H
      have Ny6:=Aside0.mk hy6
      clear hy6
      have H':=Aside0.mk H
      clear H
      have p4:0≤(x18_2:Int):=of_decide_eq_true zq_
      have q4:x18_2<(l0_0.length:Int):=of_decide_eq_true zq_
      obtain ⟨ad4,e4,hx4_0,hx4_1,hx4_2,hx4_3,hx4_4⟩:=at_T39 HR0_0.out x18_2 p4 q4
      obtain rfl:ad2=ad4:=(by injection e4)
      replace hx4_0:=zx_ HB hx4_0
      replace hx4_1:=zx_ HB hx4_1
      replace hx4_2:=zx_ HB hx4_2
      replace hx4_3:=zx_ HB hx4_3
      replace hx4_4:=zx_ HB hx4_4
      replace p4:=eq_true p4
      replace q4:=eq_true q4
      go_wp2_with (first|((with_reducible refine gate_dst (N:=7) rfl ?_);refine bx_ (N:=7) (cs:=#[.string (⟨#[]⟩:ByteArray), .string (⟨#[]⟩:ByteArray), .int .i64 0, .int .i64 0, .int .i64 0]) (t:=39) ?_;intro gb5 hg w16 hbox hb;replace HO_5:=am_ (Kd.R_below (zr_ HO_5) hb);have BK5:=am_ (hbox);have GW5:=am_ ((zg2_ HB GE1 GE3 hg:w.heap.size≤gb5));have GE5:=am_ ((zg2_ HB GE1 GE3 hg:w.heap.size≤gb5));replace HB:=am_ (below_step (zl2_ HB GE1 GE3) hb);have NB1_5:=am_ ((zn_ BK1 hg:gb1≠gb5));have NB5_1:=am_ ((zm_ BK1 hg:gb5≠gb1));replace BK1:=am_ (blk_below (zb_ BK1) hb);have NB3_5:=am_ ((zn_ BK3 hg:gb3≠gb5));have NB5_3:=am_ ((zm_ BK3 hg:gb5≠gb3));replace BK3:=am_ (blk_below (zb_ BK3) hb);clear hb hbox hg;have hnb17:=NB5_1.out;have hnc17:=NB1_5.out;have hnb18:=NB5_3.out;have hnc18:=NB3_5.out;obtain ⟨hcz19_0,hcz19_1,hcz19_2,hcz19_3,hcz19_4,hfz19_0,hfz19_1,hfz19_2,hfz19_3,hfz19_4⟩:=y5_ BK5;have hnb20:=NB3_1.out;have hnc20:=NB1_3.out;obtain ⟨hcz21_0,hcz21_1,hcz21_2,hcz21_3,hcz21_4⟩:=x5_ BK3;have hfz21_0:=blk_frozen BK3.out 0;have hfz21_1:=blk_frozen BK3.out 1;have hfz21_2:=blk_frozen BK3.out 2;have hfz21_3:=blk_frozen BK3.out 3;have hfz21_4:=blk_frozen BK3.out 4)|((with_reducible refine gate_builtin (b:= .append) (xs:=#[.tmp 27, .tmp 30]) rfl ?_);at_builtin;refine Kd.R_append k37 (w0:=w) w.heap.size rfl (.tmp 27) (.tmp 30) 161 37 (.agg #[(.int .i64 0),(.int .i64 0),(.int .i64 0)]) 24 rfl Try.underlying161 info37 rfl (by decide) (by omega) u5 x5_2 (⟨(rd_T39 l0_0 x18_2).f2.f0,(rd_T39 l0_0 x18_2).f2.f1,(rd_T39 l0_0 x18_2).f2.f2⟩:S37) [.int .i64 ((rd_T39 l0_0 x18_2).f2.f0), .int .i64 ((rd_T39 l0_0 x18_2).f2.f1), .int .i64 ((rd_T39 l0_0 x18_2).f2.f2)] (fun _=>True) (fun _=>False) rfl (by first|(go_simp;done)|(go_simp;rfl)) ?aP (fun _ hk=>hk.elim) ?aF ?aO ?aB ?aS ?aL ?_;(case aP=>exact k37_mkM _ _ _ (⟨(rd_T39 l0_0 x18_2).f2.f0,(rd_T39 l0_0 x18_2).f2.f1,(rd_T39 l0_0 x18_2).f2.f2⟩:S37));(case aB=>exact (zl3_ HB GE1 GE3 GE5));(case aF=>exact (fun _ _=>trivial));(case aO=>exact (by refine zt_ ?_;exact Kd.R_mono (Kd.R_far (p:=⟨gb5,4,none⟩) (Kd.R_far (p:=⟨gb5,3,none⟩) (Kd.R_far (p:=⟨gb5,2,none⟩) (Kd.R_far (p:=⟨gb5,1,none⟩) (Kd.R_far (p:=⟨gb5,0,none⟩) (Kd.R_types HO_5.out BK5.out (by decide)) (fun _ hk=>hk.2) (.string ((rd_T39 l0_0 x18_2).f0))) (fun _ hk=>hk.2) (.string ((rd_T39 l0_0 x18_2).f1))) (fun _ hk=>hk.2) (.int .i64 ((rd_T39 l0_0 x18_2).f2.f0))) (fun _ hk=>hk.2) (.int .i64 ((rd_T39 l0_0 x18_2).f2.f1))) (fun _ hk=>hk.2) (.int .i64 ((rd_T39 l0_0 x18_2).f2.f2))) (fun _ hk=>trivial)));(case aS=>exact (below_size (zl3_ HB GE1 GE3 GE5)));(case aL=>have:=LMc15.out;omega);intro v7 w22 ho hb hg hat;rw [←Ny6.out] at ho;have n0_:=am_ (blk_grown (g:=gb1) (o:= .cells #[.slice (some ad2) l0_0.length c0_0] 110 (0,0)) (zw_ BK1) hg (Kd.R_ne HO_5.out BK1.out (by decide)));have n1_:=am_ (blk_grown (g:=gb3) (o:= .cells #[.string ((rd_T39 l0_0 x11_1).f0), .string ((rd_T39 l0_0 x11_1).f1), .int .i64 ((rd_T39 l0_0 x11_1).f2.f0), .int .i64 ((rd_T39 l0_0 x11_1).f2.f1), .int .i64 ((rd_T39 l0_0 x11_1).f2.f2)] 39 (0,0)) (zw_ BK3) hg (Kd.R_ne HO_5.out BK3.out (by decide)));have n2_:=am_ (blk_grown (g:=gb5) (o:= .cells #[.string ((rd_T39 l0_0 x18_2).f0), .string ((rd_T39 l0_0 x18_2).f1), .int .i64 ((rd_T39 l0_0 x18_2).f2.f0), .int .i64 ((rd_T39 l0_0 x18_2).f2.f1), .int .i64 ((rd_T39 l0_0 x18_2).f2.f2)] 39 (0,0)) (zw_ BK5) hg (Kd.R_ne HO_5.out BK5.out (by decide)));have n3_:=am_ (hb);have n4_:=am_ (ho);clear BK1;clear BK3;clear BK5;clear HB;clear HO_5;have BK1:=n0_;have BK3:=n1_;have BK5:=n2_;have HB:=n3_;have HO8:=n4_;clear n0_ n1_ n2_ n3_ n4_;clear ho hb hg hat))
      go_roundg k2
      case measure=>have:=HK1.out;have:=HK2.out;omega
      case rel=>exact ⟨(y6),(wrap64 (x18_2+1)),(by first|rfl|(simp;done)|(simp [*];done)),H',⟨by have:=HK1.out;have:=HK2.out;omega⟩,⟨by (with_reducible repeat (first|apply Kd.R_alloc|apply Kd.R_drewN|apply Kd.R_drew));exact HO8.out⟩,⟨by refine zk_ ?_;exact BK1.out⟩,⟨by refine zk_ ?_;exact BK3.out⟩,⟨zl3_ HB GE1 GE3 GE5⟩⟩
     rw [if_neg c11] at H
     have c11b0:decide (x18_2<(l0_0.length:Int))=false:=decide_eq_false c11
     clear c11
     replace H:=Option.bind_eq_some_iff.mp H
     obtain ⟨⟨t9,t10,t11⟩,A290,H⟩:=H
     try dsimp only at H
     have A29:=Aside0.mk A290
     clear A290
     replace H:=Option.bind_eq_some_iff.mp H
     obtain ⟨t12,A300,H⟩:=H
     try dsimp only at H
     have A30:=Aside0.mk A300
     clear A300
     by_cases c31:t12=true
     ·subst c31
      have H1:(want_list_sums.l0 k2 l0_0 (l0_0.length:Int) (wrap64 (x11_1+1)) l0_0)=some r:=by rw [if_pos rfl] at H;exact H
      clear H
      have H:=H1
      clear H1
      have H':=Aside0.mk H
      clear H
      try go_wp2
      replace HO_5:=am_ (Kd.R_drew HO_5.out)
      replace BK1:=am_ (blk_drew BK1.out)
      replace BK3:=am_ (blk_drew BK3.out)
      replace HB:=am_ (below_drew1 HB.out)
      obtain ⟨Ao33,co33,eo33⟩:=Kd.R_slice HO_5.out
      (first|subst eo33|(injection eo33 with f1_ f2_ f3_;have f4_:=f1_.symm;have f5_:=f3_.symm;clear f1_ f2_ f3_;subst f4_;subst f5_))
      refine start_ (n:=6) (S:=fun w'=>w'.cell? ⟨gb3,0,none⟩=some (.string ((rd_T39 l0_0 x11_1).f0))∧w'.cell? ⟨gb3,1,none⟩=some (.string ((rd_T39 l0_0 x11_1).f1))∧w'.cell? ⟨gb3,2,none⟩=some (.int .i64 ((rd_T39 l0_0 x11_1).f2.f0))∧w'.cell? ⟨gb3,3,none⟩=some (.int .i64 ((rd_T39 l0_0 x11_1).f2.f1))∧w'.cell? ⟨gb3,4,none⟩=some (.int .i64 ((rd_T39 l0_0 x11_1).f2.f2))) (ds:=[]) (bt_ 6 0) (by kernel_rfl) rfl rfl ⟨(blk_cell BK3.out 0).trans rfl,(blk_cell BK3.out 1).trans rfl,(blk_cell BK3.out 2).trans rfl,(blk_cell BK3.out 3).trans rfl,(blk_cell BK3.out 4).trans rfl⟩ (fun hHeld=> ?_)
      generalize wr.drew=w32 at HO_5 BK1 BK3 HB hHeld ⊢
      refine pure_ (i:=0) (N:=some 33) (v:= ?_) (a':= ?_) (bt_ 6 1) rfl rfl (by kernel_rfl) (fun _ _ _ h=>h) (Or.inl ⟨by rfl, ?_⟩) ?_ ?_
      rotate_left
      ·intro w'
       go_simp
       with_reducible rfl
      rotate_left
      ·simp only [Act.put,List.setIfInBounds_toArray,List.set_cons_zero,List.set_cons_succ,i64_w,i32_w]
       rfl
      refine pure_ (i:=2) (N:=some 35) (v:= ?_) (a':= ?_) (bt_ 6 5) rfl rfl (by kernel_rfl) (fun _ _ _ h=>h) (Or.inl ⟨by rfl, ?_⟩) ?_ ?_
      rotate_left
      ·intro w'
       go_simp
       with_reducible rfl
      rotate_left
      ·simp only [Act.put,List.setIfInBounds_toArray,List.set_cons_zero,List.set_cons_succ,i64_w,i32_w]
       rfl
      refine take_ (i:=3) (N:=some 36) (v:= ?_) (a':= ?_) (bt_ 6 13) rfl rfl (by kernel_rfl) (fun _ _ _ h=>h) (Or.inl ⟨by rfl, ?_⟩) hHeld ?_ ?_
      rotate_left
      ·rintro w' ⟨s0,s1,s2,s3,s4⟩
       go_simp
       with_reducible rfl
      rotate_left
      ·simp only [Act.put,List.setIfInBounds_toArray,List.set_cons_zero,List.set_cons_succ,i64_w,i32_w]
       rfl
      refine one_ (i:=1) (N:=some 34) (bt_ 6 15) rfl rfl (by kernel_rfl) (by decide) (fun K hK=> ?_)
      refine gs_ Try.func115 #[.slice Ao33 x5_2.length co33] ?_
      with_reducible refine (vec_Add.calls _ _ x5_2 t9 t10 t11 _ ?side1 ?side2 A29.out).mono ?_
      (case side1=>exact zc_ (Kd.R_reads' HO_5.out).2.2)
      (case side2=>exact (Kd.R_reads' HO_5.out).2.1)
      rintro e w34 ⟨rfl,hb⟩
      refine ⟨_,rfl, ?_⟩
      replace HO_5:=am_ (Kd.R_below (zr_ HO_5) hb)
      replace BK1:=am_ (blk_below (zb_ BK1) hb)
      replace BK3:=am_ (blk_below (zb_ BK3) hb)
      replace HB:=am_ (below_step (zl2_ HB GE1 GE3) hb)
      (try clear hb)
      (try clear hb2)
      (try clear hk)
      (try clear hi)
      refine hK.out _ _ ⟨(blk_cell BK3.out 0).trans rfl,(blk_cell BK3.out 1).trans rfl,(blk_cell BK3.out 2).trans rfl,(blk_cell BK3.out 3).trans rfl,(blk_cell BK3.out 4).trans rfl⟩ (fun hHeld=> ?_)
      clear hK K
      refine no_ (N:=some 34) ?_
      refine one_ (i:=4) (N:=some 37) (bt_ 6 31) rfl rfl (by kernel_rfl) (by decide) (fun K hK=> ?_)
      refine gs_ Try.func114 #[.agg #[.int .i64 t9, .int .i64 t10, .int .i64 t11], .agg #[.int .i64 ((rd_T39 l0_0 x11_1).f2.f0), .int .i64 ((rd_T39 l0_0 x11_1).f2.f1), .int .i64 ((rd_T39 l0_0 x11_1).f2.f2)]] ?_
      with_reducible refine (vec_Le.calls t9 t10 t11 ((rd_T39 l0_0 x11_1).f2.f0) ((rd_T39 l0_0 x11_1).f2.f1) ((rd_T39 l0_0 x11_1).f2.f2) true _ A30.out).mono ?_
      rintro e w35 ⟨rfl,hb⟩
      refine ⟨_,rfl, ?_⟩
      replace HO_5:=am_ (Kd.R_below (zr_ HO_5) hb)
      replace BK1:=am_ (blk_below (zb_ BK1) hb)
      replace BK3:=am_ (blk_below (zb_ BK3) hb)
      replace HB:=am_ (below_step (zl2_ HB GE1 GE3) hb)
      (try clear hb)
      (try clear hb2)
      (try clear hk)
      (try clear hi)
      refine hK.out _ _ ⟨(blk_cell BK3.out 0).trans rfl,(blk_cell BK3.out 1).trans rfl,(blk_cell BK3.out 2).trans rfl,(blk_cell BK3.out 3).trans rfl,(blk_cell BK3.out 4).trans rfl⟩ (fun hHeld=> ?_)
      clear hK K
      refine no_ (N:=some 37) ?_
      refine pure_ (i:=5) (N:=some 38) (v:= ?_) (a':= ?_) (bt_ 6 63) rfl rfl (by kernel_rfl) (fun _ _ _ h=>h) (Or.inl ⟨by rfl, ?_⟩) ?_ ?_
      rotate_left
      ·intro w'
       go_simp
       with_reducible rfl
      rotate_left
      ·simp only [Act.put,List.setIfInBounds_toArray,List.set_cons_zero,List.set_cons_succ,i64_w,i32_w]
       rfl
      refine done_ (by kernel_rfl) ?_
      try go_wp2
      go_roundg k2
      case measure=>have:=HK1.out;have:=HK2.out;omega
      case rel=>exact ⟨(wrap64 (x11_1+1)),(by first|rfl|(simp;done)|(simp [*];done)),H',⟨by have:=HK1.out;have:=HK2.out;omega⟩,⟨by refine zk_ ?_;exact BK1.out⟩,⟨zl2_ HB GE1 GE3⟩⟩
     replace c31:=Bool.eq_false_iff.mpr c31
     subst c31
     have H1:(some 11)=some r:=by rw [if_neg (show¬(false=true) by decide)] at H;exact H
     clear H
     have H:=H1
     clear H1
     obtain rfl:=Option.some.inj H
     try go_wp2
     replace HO_5:=am_ (Kd.R_drew HO_5.out)
     replace BK1:=am_ (blk_drew BK1.out)
     replace BK3:=am_ (blk_drew BK3.out)
     replace HB:=am_ (below_drew1 HB.out)
     obtain ⟨Ao37,co37,eo37⟩:=Kd.R_slice HO_5.out
     (first|subst eo37|(injection eo37 with f1_ f2_ f3_;have f4_:=f1_.symm;have f5_:=f3_.symm;clear f1_ f2_ f3_;subst f4_;subst f5_))
     refine start_ (n:=6) (S:=fun w'=>w'.cell? ⟨gb3,0,none⟩=some (.string ((rd_T39 l0_0 x11_1).f0))∧w'.cell? ⟨gb3,1,none⟩=some (.string ((rd_T39 l0_0 x11_1).f1))∧w'.cell? ⟨gb3,2,none⟩=some (.int .i64 ((rd_T39 l0_0 x11_1).f2.f0))∧w'.cell? ⟨gb3,3,none⟩=some (.int .i64 ((rd_T39 l0_0 x11_1).f2.f1))∧w'.cell? ⟨gb3,4,none⟩=some (.int .i64 ((rd_T39 l0_0 x11_1).f2.f2))) (ds:=[]) (bt_ 6 0) (by kernel_rfl) rfl rfl ⟨(blk_cell BK3.out 0).trans rfl,(blk_cell BK3.out 1).trans rfl,(blk_cell BK3.out 2).trans rfl,(blk_cell BK3.out 3).trans rfl,(blk_cell BK3.out 4).trans rfl⟩ (fun hHeld=> ?_)
     generalize wr.drew=w36 at HO_5 BK1 BK3 HB hHeld ⊢
     refine pure_ (i:=0) (N:=some 33) (v:= ?_) (a':= ?_) (bt_ 6 1) rfl rfl (by kernel_rfl) (fun _ _ _ h=>h) (Or.inl ⟨by rfl, ?_⟩) ?_ ?_
     rotate_left
     ·intro w'
      go_simp
      with_reducible rfl
     rotate_left
     ·simp only [Act.put,List.setIfInBounds_toArray,List.set_cons_zero,List.set_cons_succ,i64_w,i32_w]
      rfl
     refine pure_ (i:=2) (N:=some 35) (v:= ?_) (a':= ?_) (bt_ 6 5) rfl rfl (by kernel_rfl) (fun _ _ _ h=>h) (Or.inl ⟨by rfl, ?_⟩) ?_ ?_
     rotate_left
     ·intro w'
      go_simp
      with_reducible rfl
     rotate_left
     ·simp only [Act.put,List.setIfInBounds_toArray,List.set_cons_zero,List.set_cons_succ,i64_w,i32_w]
      rfl
     refine take_ (i:=3) (N:=some 36) (v:= ?_) (a':= ?_) (bt_ 6 13) rfl rfl (by kernel_rfl) (fun _ _ _ h=>h) (Or.inl ⟨by rfl, ?_⟩) hHeld ?_ ?_
     rotate_left
     ·rintro w' ⟨s0,s1,s2,s3,s4⟩
      go_simp
      with_reducible rfl
     rotate_left
     ·simp only [Act.put,List.setIfInBounds_toArray,List.set_cons_zero,List.set_cons_succ,i64_w,i32_w]
      rfl
     refine one_ (i:=1) (N:=some 34) (bt_ 6 15) rfl rfl (by kernel_rfl) (by decide) (fun K hK=> ?_)
     refine gs_ Try.func115 #[.slice Ao37 x5_2.length co37] ?_
     with_reducible refine (vec_Add.calls _ _ x5_2 t9 t10 t11 _ ?side1 ?side2 A29.out).mono ?_
     (case side1=>exact zc_ (Kd.R_reads' HO_5.out).2.2)
     (case side2=>exact (Kd.R_reads' HO_5.out).2.1)
     rintro e w38 ⟨rfl,hb⟩
     refine ⟨_,rfl, ?_⟩
     replace HO_5:=am_ (Kd.R_below (zr_ HO_5) hb)
     replace BK1:=am_ (blk_below (zb_ BK1) hb)
     replace BK3:=am_ (blk_below (zb_ BK3) hb)
     replace HB:=am_ (below_step (zl2_ HB GE1 GE3) hb)
     (try clear hb)
     (try clear hb2)
     (try clear hk)
     (try clear hi)
     refine hK.out _ _ ⟨(blk_cell BK3.out 0).trans rfl,(blk_cell BK3.out 1).trans rfl,(blk_cell BK3.out 2).trans rfl,(blk_cell BK3.out 3).trans rfl,(blk_cell BK3.out 4).trans rfl⟩ (fun hHeld=> ?_)
     clear hK K
     refine no_ (N:=some 34) ?_
     refine one_ (i:=4) (N:=some 37) (bt_ 6 31) rfl rfl (by kernel_rfl) (by decide) (fun K hK=> ?_)
     refine gs_ Try.func114 #[.agg #[.int .i64 t9, .int .i64 t10, .int .i64 t11], .agg #[.int .i64 ((rd_T39 l0_0 x11_1).f2.f0), .int .i64 ((rd_T39 l0_0 x11_1).f2.f1), .int .i64 ((rd_T39 l0_0 x11_1).f2.f2)]] ?_
     with_reducible refine (vec_Le.calls t9 t10 t11 ((rd_T39 l0_0 x11_1).f2.f0) ((rd_T39 l0_0 x11_1).f2.f1) ((rd_T39 l0_0 x11_1).f2.f2) false _ A30.out).mono ?_
     rintro e w39 ⟨rfl,hb⟩
     refine ⟨_,rfl, ?_⟩
     replace HO_5:=am_ (Kd.R_below (zr_ HO_5) hb)
     replace BK1:=am_ (blk_below (zb_ BK1) hb)
     replace BK3:=am_ (blk_below (zb_ BK3) hb)
     replace HB:=am_ (below_step (zl2_ HB GE1 GE3) hb)
     (try clear hb)
     (try clear hb2)
     (try clear hk)
     (try clear hi)
     refine hK.out _ _ ⟨(blk_cell BK3.out 0).trans rfl,(blk_cell BK3.out 1).trans rfl,(blk_cell BK3.out 2).trans rfl,(blk_cell BK3.out 3).trans rfl,(blk_cell BK3.out 4).trans rfl⟩ (fun hHeld=> ?_)
     clear hK K
     refine no_ (N:=some 37) ?_
     refine pure_ (i:=5) (N:=some 38) (v:= ?_) (a':= ?_) (bt_ 6 63) rfl rfl (by kernel_rfl) (fun _ _ _ h=>h) (Or.inl ⟨by rfl, ?_⟩) ?_ ?_
     rotate_left
     ·intro w'
      go_simp
      with_reducible rfl
     rotate_left
     ·simp only [Act.put,List.setIfInBounds_toArray,List.set_cons_zero,List.set_cons_succ,i64_w,i32_w]
      rfl
     refine done_ (by kernel_rfl) ?_
     try go_wp2
     go_ret
     exact ⟨by first|rfl|(simp [errW_none,errW_some]<;>rfl)|(simp [*,errW_none,errW_some]<;>rfl),zl2_ HB GE1 GE3⟩
def wloose (l:List (S39)) (w:S39):Bool:= !decide (w.f1=⟨#[]⟩) && decide (wplace l w.f1<0)
def wflat (l:List (S39)) (w:S39):Bool:=decide (fillR l w.f0=0)
noncomputable def want_Check.f (k:Nat) (l0:List (S39)):Option Int:=open Classical in
 if 120<l0.length then some 4 else if smallW l0 then (if wnames l0 l0 0=0 then (if l0.any (wloose l0)=true then some 2 else if l0.any (wflat l0)=true then some 10 else want_list_sums.f k l0) else some (wnames l0 l0 0)) else none
open Classical in
theorem want_Check.mono: ∀a0 k,LeO (want_Check.f k a0) (want_Check.f (k+1) a0):=by
 intro a0 k
 unfold want_Check.f
 repeat' first
  |(with_reducible exact want_list_sums.mono _ _)
  |(with_reducible exact LeO.refl _)
  |(with_reducible refine LeO.ite ?_ ?_)
theorem any_drop {l:List S39} (p:S39→Bool) {i:Nat} (h:i<l.length):(l.drop i).any p=(p (rd_T39 l i)||(l.drop (i+1)).any p):=by
 rw [List.drop_eq_getElem_cons h,List.any_cons]
 have e:rd_T39 l (i:Int)=l[i]:=by
  show l.getD (i:Int).toNat _=_
  rw [Int.toNat_natCast,List.getD_eq_getElem?_getD,List.getElem?_eq_getElem h,Option.getD_some]
 rw [e]
set_option maxHeartbeats 8000000 in
set_option maxRecDepth 100000 in
theorem want_Check.calls (k:Nat) (A0:Option Addr) (c0:Nat) (l0:List (S39)) (r:Int) (w:World) (hr0:Kd.C k39 w A0 l0.length l0) (hc0:l0.length≤c0) (h:want_Check.f k l0=some r):
    Calls Try.prog 26 #[.slice A0 l0.length c0] w fun e w'=>e= .returned (.int .i64 r)∧Below w.heap.size w w':=by
  obtain ⟨l,rfl⟩: ∃l,l=l0:=⟨_,rfl⟩
  obtain ⟨A,rfl⟩: ∃A,A=A0:=⟨_,rfl⟩
  obtain ⟨c,rfl⟩: ∃c,c=c0:=⟨_,rfl⟩
  have hu113:=Try.underlying113
  have hu110:=Try.underlying110
  have hu39:=Try.underlying39
  unfold want_Check.f at h
  have HR:=Aside0.mk hr0
  have HC:=Aside0.mk hc0
  have HB:=am_ (Below.refl w.heap.size w)
  clear hr0 hc0
  by_cases h1:120<l.length
  · rw [if_pos h1] at h
    obtain rfl:=Option.some.inj h
    have hz:(120:Int)<(l.length:Int):=by omega
    clear h
    go_enter Try.func26,Try.ntmps26
    go_wp2
    go_ret
    exact ⟨rfl,HB.out⟩
  rw [if_neg h1] at h
  split at h
  case isFalse=>cases h
  case isTrue hs=>
  have hl:l.length≤1000:=by omega
  have hz: ¬(120:Int)<(l.length:Int):=by omega
  have HS:=Aside0.mk hs
  have HL:=Aside0.mk hl
  have HF:=Aside0.mk h
  clear hs hl h1 h
  go_enter Try.func26,Try.ntmps26
  by_cases hn:wnames l l 0=0
  case neg=>
    rw [if_neg hn] at HF
    have hnb:(wnames l l 0 !=0)=true:=bne_iff_ne.mpr hn
    clear hn
    go_wp2_with (first|((with_reducible refine gate_dst (N:=15) rfl ?_);refine bx_ (N:=15) (cs:=#[.slice A l.length c, .map none]) (t:=113) ?_;intro gb15 hg w1 hbox hb;have BK15:=am_ (hbox);have GE15:=am_ ((by rw [hg];exact below_size HB.out:w.heap.size≤gb15));replace HB:=am_ (below_step HB.out hb);have EQ15:=am_ (hg);clear hb hbox hg;have cgb15_0:=(blk_cell BK15.out 0).trans rfl)|(go_at_call 72;refine (wantNames_calls A c l _ (Kd.C_below HR.out HB.out) HC.out (by have:=HL.out;omega)).mono ?_;rintro e w2 ⟨rfl,hb⟩;have n0_:=am_ (below_step HB.out hb);have n1_:=am_ (blk_below BK15.out hb);clear HB BK15 hb cgb15_0;have HB:=n0_;have BK15:=n1_;clear n0_ n1_))
    go_ret
    exact ⟨congrArg (fun z=>Ending.returned (.int .i64 z)) (Option.some.inj HF.out),HB.out⟩
  rw [if_pos hn] at HF
  have hnb:(wnames l l 0 !=0)=false:=by rw [hn];rfl
  clear hn
  go_wp2_with (first|((with_reducible refine gate_dst (N:=15) rfl ?_);refine bx_ (N:=15) (cs:=#[.slice A l.length c, .map none]) (t:=113) ?_;intro gb15 hg w1 hbox hb;have BK15:=am_ (hbox);have GE15:=am_ ((by rw [hg];exact below_size HB.out:w.heap.size≤gb15));replace HB:=am_ (below_step HB.out hb);have EQ15:=am_ (hg);clear hb hbox hg;have cgb15_0:=(blk_cell BK15.out 0).trans rfl)|(go_at_call 72;refine (wantNames_calls A c l _ (Kd.C_below HR.out HB.out) HC.out (by have:=HL.out;omega)).mono ?_;rintro e w2 ⟨rfl,hb⟩;have n0_:=am_ (below_step HB.out hb);have n1_:=am_ (blk_below BK15.out hb);clear HB BK15 hb cgb15_0;have HB:=n0_;have BK15:=n1_;clear n0_ n1_))
  clear hz hnb
  go_loopg [26] l.length (fun kq v26 w'=> ∃i:Nat,v26= .int .i64 i∧i≤l.length∧l.length - i≤kq∧Aside0 (Below w.heap.size w w')∧Aside0 (w'.heap[gb15]?=some (.cells #[.slice A l.length c, .map none] 113 (0,0)))∧Aside0 (l.any (wloose l)=(l.drop i).any (wloose l)))
  case atStart=>exact ⟨0,rfl,by omega,by omega,HB,BK15,⟨rfl⟩⟩
  case round=>
    clear HB BK15
    obtain ⟨i,rfl,hil,hkq,HB,BK15,HA⟩:=hrel
    by_cases hlt:i<l.length
    rotate_left
    · obtain rfl : i = l.length := by omega
      have a: ¬l.any (wloose l)=true:=by rw [HA.out,List.drop_length];simp
      rw [if_neg a] at HF
      clear a HA
      have cb15_0:=(blk_cell BK15.out 0).trans rfl
      go_wp2_with (go_at_call 74;refine (wantFill_calls w _ gb15 A c l none BK15.out GE15.out HB.out HR.out HC.out HL.out HS.out).mono ?_;rintro e w3 ⟨rfl,mb,n,hbk,hm,hb,_⟩;clear BK15 HB;have BK15:=Aside0.mk hbk;have MP:=Aside0.mk hm;have HB:=Aside0.mk hb;clear hbk hm hb cb15_0)
      go_loopg [48] l.length (fun kq v48 w'=> ∃i:Nat,v48= .int .i64 i∧i≤l.length∧l.length - i≤kq∧Aside0 (Below w.heap.size w w')∧Aside0 (w'.heap[gb15]?=some (.cells #[.slice A l.length c, .map (some mb)] 113 (0,0)))∧Aside0 (MapAt w' mb n (fillR l))∧Aside0 (l.any (wflat l)=(l.drop i).any (wflat l)))
      case atStart=>exact ⟨0,rfl,by omega,by omega,HB,BK15,MP,⟨rfl⟩⟩
      case round=>
        clear HB BK15 MP
        obtain ⟨i,rfl,hil,hkq,HB,BK15,MP,HA⟩:=hrel
        by_cases hlt:i<l.length
        rotate_left
        · obtain rfl : i = l.length := by omega
          have a: ¬l.any (wflat l)=true:=by rw [HA.out,List.drop_length];simp
          rw [if_neg a] at HF
          clear a HA
          have cb15_0:=(blk_cell BK15.out 0).trans rfl
          go_wp2_with (go_at_call 75;refine (want_list_sums.calls k A c l r _ (Kd.C_below HR.out HB.out) HC.out HF.out).mono ?_;rintro e w6 ⟨rfl,hb⟩;have n0_:=am_ (below_step HB.out hb);clear HB hb BK15 MP cb15_0;have HB:=n0_;clear n0_)
          go_ret
          exact ⟨rfl,HB.out⟩


        have hltz:(i:Int)<(l.length:Int):=by omega
        obtain ⟨x,hx⟩: ∃x:Int,x=(i:Int):=⟨_,rfl⟩
        have HX0:=am_ (show 0≤x by omega)
        have HX1:=am_ (show x<(l.length:Int) by omega)
        have HD:=am_ (any_drop (wflat l) hlt)
        rw [←hx] at HD
        have HXI:=Aside0.mk hx
        rw [←hx]
        have hltx:x<(l.length:Int):=HX1.out
        have SM:=am_ (smallW_rd HS.out x)
        clear hltz hx
        have p6:0≤x:=HX0.out
        have q6:x<(l.length:Int):=HX1.out
        obtain ⟨ad,e6,k0,k1,k2,k3,k4⟩:=at_T39 HR.out x p6 q6
        cases e6
        have k0:=zx_ HB k0
        have k1:=zx_ HB k1
        have k2:=zx_ HB k2
        have k3:=zx_ HB k3
        have k4:=zx_ HB k4
        replace p6:=eq_true p6
        replace q6:=eq_true q6
        have BK15_:=BK15
        go_wp2_with (first|((with_reducible refine gate_dst (N:=8) rfl ?_);refine bx_ (N:=8) (cs:=#[.string ⟨#[]⟩, .string ⟨#[]⟩, .int .i64 0, .int .i64 0, .int .i64 0]) (t:=39) ?_;intro gb8 hg w4 hbox hb;replace BK15:=am_ (blk_below BK15.out hb);have BK8:=am_ (hbox);have GE8:=am_ ((by rw [hg];exact below_size HB.out:w.heap.size≤gb8));replace HB:=am_ (below_step HB.out hb);have EQ8:=am_ (hg);have NM:=am_ (show mb≠gb8 from by have:=MP.out.lt;rw [hg];exact Nat.ne_of_lt this);have m_:=am_ (MP.out.below hb);clear MP;have MP:=m_;clear m_;have NE:=am_ (show gb15≠gb8 from by have:=blk_lt BK15_.out;rw [hg];exact Nat.ne_of_lt this);clear hb hbox hg;have cgb8_0:=(blk_cell BK8.out 0).trans rfl;have cgb8_1:=(blk_cell BK8.out 1).trans rfl;have cgb8_2:=(blk_cell BK8.out 2).trans rfl;have cgb8_3:=(blk_cell BK8.out 3).trans rfl;have cgb8_4:=(blk_cell BK8.out 4).trans rfl)|((with_reducible refine gate_store (t:=39) (p:=8) (v:= .tmp 51) rfl ?_);refine store_all BK8.out 39 (.tmp 8) (.tmp 51) rfl rfl rfl (.agg #[.string (rd_T39 l x).f0, .string (rd_T39 l x).f1, .int .i64 (rd_T39 l x).f2.f0, .int .i64 (rd_T39 l x).f2.f1, .int .i64 (rd_T39 l x).f2.f2]) [.string (rd_T39 l x).f0, .string (rd_T39 l x).f1, .int .i64 (rd_T39 l x).f2.f0, .int .i64 (rd_T39 l x).f2.f1, .int .i64 (rd_T39 l x).f2.f2] rfl rfl rfl (by kernel_rfl) rfl (by intro q hq;simp only [List.mem_cons,List.not_mem_nil,or_false] at hq;rcases hq with rfl|rfl|rfl|rfl|rfl<;>rfl) ?_;intro w5 hbk hg;clear cgb8_0 cgb8_1 cgb8_2 cgb8_3 cgb8_4;replace BK15:=am_ (blk_put_other BK15.out hg (NE.out));replace HB:=am_ (below_put HB.out (below_size HB.out) hg GE8.out);replace MP:=am_ (MP.out.other hg NM.out);replace BK8:=am_ (hbk);clear hbk hg;have c8_0:=(blk_cell BK8.out 0).trans rfl))
        clear k0 k1 k2 k3 k4 p6 q6
        have cb_1:=(blk_cell BK15.out 1).trans rfl
        have z0:=fun (n_:Nat)=>(show (w5.drewN n_).cell? _=some _ from cb_1)
        have z1:=fun (n_:Nat)=>(show (w5.drewN n_).cell? _=some _ from c8_0)
        have z2:=fun (n_:Nat)=>MP.out.look Try.underlying111 SM.out.1 (w5.drewN n_) rfl
        by_cases e2:fillR l (rd_T39 l x).f0=0
        · have HW := am_ (show wflat l (rd_T39 l x) = true from decide_eq_true e2)
          have e2b:(fillR l (rd_T39 l x).f0==0)=true:=by rw [e2];rfl
          clear e2
          go_quiet (fail)
          try go_wp2
          go_ret
          refine ⟨?_,pw_below_drewN HB.out _⟩
          have a:l.any (wflat l)=true:=by rw [HA.out,HD.out,HW.out,Bool.true_or]
          have f:=HF.out
          rw [if_pos a] at f
          exact congrArg (fun z=>Ending.returned (.int .i64 z)) (Option.some.inj f)
        have HW:=am_ (show wflat l (rd_T39 l x)=false from decide_eq_false e2)
        have e2b:(fillR l (rd_T39 l x).f0==0)=false:=by rw [beq_eq_false_iff_ne];exact e2
        clear e2
        go_quiet (fail)
        try go_wp2
        clear z0 z1 z2 cb_1 c8_0
        have n0_:=am_ (blk_drewN BK15.out nq)
        have n1_:=am_ (MP.out.kept (w':=w5.drewN nq) rfl)
        have n2_:=am_ (pw_below_drewN HB.out nq)
        clear BK15 MP HB BK8 BK15_ NE NM
        have BK15:=n0_
        have MP:=n1_
        have HB:=n2_
        clear n0_ n1_ n2_
        generalize w5.drewN nq=w8 at BK15 MP HB ⊢
        go_roundg (l.length - (i+1))
        case measure=>omega
        case rel=>exact ⟨i+1,by rw [HXI.out,wnx (by have:=HL.out;omega)],by omega,by omega,HB,BK15,MP,⟨by rw [HA.out,HD.out,HW.out,Bool.false_or]⟩⟩
    have hltz:(i:Int)<(l.length:Int):=by omega
    obtain ⟨x,hx⟩: ∃x:Int,x=(i:Int):=⟨_,rfl⟩
    have HX0:=am_ (show 0≤x by omega)
    have HX1:=am_ (show x<(l.length:Int) by omega)
    have HD:=am_ (any_drop (wloose l) hlt)
    rw [←hx] at HD
    have HXI:=Aside0.mk hx
    rw [←hx]
    have hltx:x<(l.length:Int):=HX1.out
    clear hltz hx
    have p6:0≤x:=HX0.out
    have q6:x<(l.length:Int):=HX1.out
    obtain ⟨ad,e6,k0,k1,k2,k3,k4⟩:=at_T39 HR.out x p6 q6
    cases e6
    have k0:=zx_ HB k0
    have k1:=zx_ HB k1
    have k2:=zx_ HB k2
    have k3:=zx_ HB k3
    have k4:=zx_ HB k4
    replace p6:=eq_true p6
    replace q6:=eq_true q6
    have BK15_:=BK15
    by_cases e1:(rd_T39 l x).f1=⟨#[]⟩
    · have hE : (rd_T39 l x).f1.toList.isEmpty = true := by rw [e1, ByteArray.toList_eq]; rfl
      have HW:=am_ (show wloose l (rd_T39 l x)=false by unfold wloose;rw [decide_eq_true e1];rfl)
      clear e1
      go_wp2_with (first|((with_reducible refine gate_dst (N:=6) rfl ?_);refine bx_ (N:=6) (cs:=#[.string ⟨#[]⟩, .string ⟨#[]⟩, .int .i64 0, .int .i64 0, .int .i64 0]) (t:=39) ?_;intro gb6 hg w4 hbox hb;replace BK15:=am_ (blk_below BK15.out hb);have BK6:=am_ (hbox);have GE6:=am_ ((by rw [hg];exact below_size HB.out:w.heap.size≤gb6));replace HB:=am_ (below_step HB.out hb);have EQ6:=am_ (hg);have NE:=am_ (show gb15≠gb6 from by have:=blk_lt BK15_.out;rw [hg];exact Nat.ne_of_lt this);clear hb hbox hg;have cgb6_0:=(blk_cell BK6.out 0).trans rfl;have cgb6_1:=(blk_cell BK6.out 1).trans rfl;have cgb6_2:=(blk_cell BK6.out 2).trans rfl;have cgb6_3:=(blk_cell BK6.out 3).trans rfl;have cgb6_4:=(blk_cell BK6.out 4).trans rfl)|((with_reducible refine gate_store (t:=39) (p:=6) (v:= .tmp 29) rfl ?_);refine store_all BK6.out 39 (.tmp 6) (.tmp 29) rfl rfl rfl (.agg #[.string (rd_T39 l x).f0, .string (rd_T39 l x).f1, .int .i64 (rd_T39 l x).f2.f0, .int .i64 (rd_T39 l x).f2.f1, .int .i64 (rd_T39 l x).f2.f2]) [.string (rd_T39 l x).f0, .string (rd_T39 l x).f1, .int .i64 (rd_T39 l x).f2.f0, .int .i64 (rd_T39 l x).f2.f1, .int .i64 (rd_T39 l x).f2.f2] rfl rfl rfl (by kernel_rfl) rfl (by intro q hq;simp only [List.mem_cons,List.not_mem_nil,or_false] at hq;rcases hq with rfl|rfl|rfl|rfl|rfl<;>rfl) ?_;intro w5 hbk hg;clear cgb6_0 cgb6_1 cgb6_2 cgb6_3 cgb6_4;replace BK15:=am_ (blk_put_other BK15.out hg (NE.out));replace HB:=am_ (below_put HB.out (below_size HB.out) hg GE6.out);replace BK6:=am_ (hbk);clear hbk hg;have c6_1:=(blk_cell BK6.out 1).trans rfl))
      clear k0 k1 k2 k3 k4 p6 q6
      have z1:=fun (n_:Nat)=>(show (w5.drewN n_).cell? _=some _ from c6_1)
      go_quiet (fail)
      try go_wp2
      clear z1 c6_1
      have n0_:=am_ (blk_drewN BK15.out nq)
      have n2_:=am_ (pw_below_drewN HB.out nq)
      clear BK15 HB BK6 BK15_ NE
      have BK15:=n0_
      have HB:=n2_
      clear n0_ n2_
      generalize w5.drewN nq=w8 at BK15 HB ⊢
      go_roundg (l.length - (i+1))
      case measure=>omega
      case rel=>exact ⟨i+1,by rw [HXI.out,wnx (by have:=HL.out;omega)],by omega,by omega,HB,BK15,⟨by rw [HA.out,HD.out,HW.out,Bool.false_or]⟩⟩
    have hE:(rd_T39 l x).f1.toList.isEmpty=false:=by
      cases q:(rd_T39 l x).f1.toList with
      |nil=>exact absurd (ByteArray.ext (Array.toList_inj.1 (by rw [←ByteArray.toList_eq,q]))) e1
      |cons _ _=>rfl
    have E1:=Aside0.mk e1
    clear e1
    go_wp2_with (first|((with_reducible refine gate_dst (N:=6) rfl ?_);refine bx_ (N:=6) (cs:=#[.string ⟨#[]⟩, .string ⟨#[]⟩, .int .i64 0, .int .i64 0, .int .i64 0]) (t:=39) ?_;intro gb6 hg w4 hbox hb;replace BK15:=am_ (blk_below BK15.out hb);have BK6:=am_ (hbox);have GE6:=am_ ((by rw [hg];exact below_size HB.out:w.heap.size≤gb6));replace HB:=am_ (below_step HB.out hb);have EQ6:=am_ (hg);have NE:=am_ (show gb15≠gb6 from by have:=blk_lt BK15_.out;rw [hg];exact Nat.ne_of_lt this);clear hb hbox hg;have cgb6_0:=(blk_cell BK6.out 0).trans rfl;have cgb6_1:=(blk_cell BK6.out 1).trans rfl;have cgb6_2:=(blk_cell BK6.out 2).trans rfl;have cgb6_3:=(blk_cell BK6.out 3).trans rfl;have cgb6_4:=(blk_cell BK6.out 4).trans rfl)|((with_reducible refine gate_store (t:=39) (p:=6) (v:= .tmp 29) rfl ?_);refine store_all BK6.out 39 (.tmp 6) (.tmp 29) rfl rfl rfl (.agg #[.string (rd_T39 l x).f0, .string (rd_T39 l x).f1, .int .i64 (rd_T39 l x).f2.f0, .int .i64 (rd_T39 l x).f2.f1, .int .i64 (rd_T39 l x).f2.f2]) [.string (rd_T39 l x).f0, .string (rd_T39 l x).f1, .int .i64 (rd_T39 l x).f2.f0, .int .i64 (rd_T39 l x).f2.f1, .int .i64 (rd_T39 l x).f2.f2] rfl rfl rfl (by kernel_rfl) rfl (by intro q hq;simp only [List.mem_cons,List.not_mem_nil,or_false] at hq;rcases hq with rfl|rfl|rfl|rfl|rfl<;>rfl) ?_;intro w5 hbk hg;clear cgb6_0 cgb6_1 cgb6_2 cgb6_3 cgb6_4;replace BK15:=am_ (blk_put_other BK15.out hg (NE.out));replace HB:=am_ (below_put HB.out (below_size HB.out) hg GE6.out);replace BK6:=am_ (hbk);clear hbk hg;have c6_1:=(blk_cell BK6.out 1).trans rfl))
    clear k0 k1 k2 k3 k4 p6 q6 c6_1
    have n0_:=am_ (blk_drew BK15.out)
    have n1_:=am_ (blk_drew BK6.out)
    have n2_:=am_ (below_drew1 HB.out)
    clear BK15 BK6 HB BK15_ NE
    have BK15:=n0_
    have BK6:=n1_
    have HB:=n2_
    clear n0_ n1_ n2_
    refine start_ (n:=13) (S:=fun w'=>w'.cell? ⟨gb6,1,none⟩=some (.string (rd_T39 l x).f1)∧w'.cell? ⟨gb15,0,none⟩=some (.slice (some ad) l.length c)) (ds:=[]) (bt_ 13 0) (by kernel_rfl) rfl rfl ⟨(blk_cell BK6.out 1).trans rfl,(blk_cell BK15.out 0).trans rfl⟩ (fun hHeld=> ?_)
    generalize w5.drew=w9 at BK15 BK6 HB hHeld ⊢
    refine pv_ (i:=0) (N:=some 30) (bt_ 13 1) ?_
    refine tv_ (i:=1) (N:=some 31) (bt_ 13 3) hHeld ?_
    refine pv_ (i:=2) (N:=some 32) (bt_ 13 7) ?_
    refine pv_ (i:=3) (N:=some 33) (bt_ 13 15) ?_
    refine pv_ (i:=4) (N:=some 34) (bt_ 13 31) ?_
    refine pv_ (i:=5) (N:=some 35) (bt_ 13 63) ?_
    refine pv_ (i:=6) (N:=some 36) (bt_ 13 127) ?_
    refine tv_ (i:=7) (N:=some 37) (bt_ 13 255) hHeld ?_
    refine pv_ (i:=8) (N:=some 38) (bt_ 13 511) ?_
    refine tv_ (i:=9) (N:=some 39) (bt_ 13 1023) hHeld ?_
    refine one_ (i:=10) (N:=some 40) (bt_ 13 2047) rfl rfl (by kernel_rfl) (by decide) (fun K hK=> ?_)
    refine goes_ Try.func73 (by kernel_rfl) rfl #[.agg #[.slice (some ad) l.length c], .string (rd_T39 l x).f1] (by rfl) rfl rfl (by (try simp only [List.map_toArray,List.map_cons,List.map_nil]);rfl) ?_
    refine (wantFind_calls (some ad) c l (rd_T39 l x).f1 _ (Kd.C_below HR.out HB.out) HC.out).mono ?_
    rintro e w10 ⟨rfl,hb⟩
    have n0_:=am_ (blk_below BK15.out hb)
    have n1_:=am_ (blk_below BK6.out hb)
    have n2_:=am_ (below_step HB.out hb)
    clear BK15 BK6 HB hb
    have BK15:=n0_
    have BK6:=n1_
    have HB:=n2_
    clear n0_ n1_ n2_
    refine ⟨_,rfl, ?_⟩
    refine hK.out _ _ ⟨(blk_cell BK6.out 1).trans rfl,(blk_cell BK15.out 0).trans rfl⟩ (fun hHeld=> ?_)
    clear hK K
    refine norm_ (a':= ?_) ?_ ?_
    rotate_left
    · show Act.put _ (some 40) _ = _
      simp only [Act.put,List.setIfInBounds_toArray,List.set_cons_zero,List.set_cons_succ,i64_w,i32_w]
      rfl
    refine pv_ (i:=11) (N:=some 41) (bt_ 13 4095) ?_
    refine pv_ (i:=12) (N:=some 42) (bt_ 13 8191) ?_
    refine done_ (by kernel_rfl) ?_
    by_cases e2:wplace l (rd_T39 l x).f1<0
    rotate_left
    · have HW := am_ (show wloose l (rd_T39 l x) = false by unfold wloose; rw [decide_eq_false e2, Bool.and_false])
      go_wp2
      go_roundg (l.length - (i+1))
      case measure=>omega
      case rel=>exact ⟨i+1,by rw [HXI.out,wnx (by have:=HL.out;omega)],by omega,by omega,HB,BK15,⟨by rw [HA.out,HD.out,HW.out,Bool.false_or]⟩⟩
    have HW:=am_ (show wloose l (rd_T39 l x)=true by unfold wloose;rw [decide_eq_false E1.out,decide_eq_true e2];rfl)
    go_wp2
    go_ret
    refine ⟨?_,HB.out⟩
    have a:l.any (wloose l)=true:=by rw [HA.out,HD.out,HW.out,Bool.true_or]
    have f:=HF.out
    rw [if_pos a] at f
    exact congrArg (fun z=>Ending.returned (.int .i64 z)) (Option.some.inj f)
def law1_Num.f (a0:Int):Option (Int):=some a0
set_option maxHeartbeats 8000000 in
set_option maxRecDepth 100000 in
theorem law1_Num.calls (a0:Int) (r:Int) (w:World) (h:law1_Num.f a0=some r):
  Calls Try.prog 25 #[.int .i64 a0] w fun e w'=>e= .returned (.int .i64 r)∧Drawn0 w w':=by
 have H:(some a0)=some r:=h
 clear h
 obtain rfl:=Option.some.inj H
 go_enter Try.func25,Try.ntmps25
 go_wp2
 go_ret
 exact ⟨by first|rfl|(simp;done)|(simp [*];done),by repeat (first|exact Drawn0.refl _|apply Drawn0.step)⟩

noncomputable def law11_awake.f (k:Nat):Option (Bool):=(some (([(⟨(⟨#[98]⟩:ByteArray),(⟨#[97]⟩:ByteArray),(⟨0,0,0⟩:S37)⟩:S39),(⟨(⟨#[97]⟩:ByteArray),(⟨#[]⟩:ByteArray),(⟨0,0,0⟩:S37)⟩:S39)]:List (S39)):List (S39))).bind fun y1=>((want_Top.f y1).bind fun t4=>((want_Check.f k ([]:List (S39))).bind fun t7=>((law1_Num.f t7).bind fun t8=>(if t8=0 then (if (t4.length:Int)=2 then (if 0<(t4.length:Int) then (if ((rd_T39 t4 0).f0).toList=([97]:List UInt8) then ((want_Depth.f y1 (⟨#[98]⟩:ByteArray)).bind fun t10=>(some (t10==2))) else (some false)) else (none)) else (some false)) else (some false)))))
theorem law11_awake.mono: ∀k,LeO (law11_awake.f k) (law11_awake.f (k+1)):=by
 intro k
 unfold law11_awake.f
 repeat' first
  |(with_reducible exact want_Check.mono _ _)
  |(with_reducible exact LeO.refl _)
  |(with_reducible exact LeO.none _)
  |(with_reducible refine LeO.ite ?_ ?_)
  |(with_reducible refine LeO.bind ?_ (fun _=> ?_))
  |exact want_Check.mono _ _
  |exact LeO.none _
  |refine LeO.ite ?_ ?_
  |refine LeO.bind ?_ (fun _=> ?_)
set_option maxHeartbeats 8000000 in
set_option maxRecDepth 100000 in
theorem law11_awake.calls (k:Nat) (r:Bool) (w:World) (h:law11_awake.f k=some r):
  Calls Try.prog 23 #[] w fun e w'=>e= .returned (.bool r)∧Below w.heap.size w w':=by
 have hu39:=Try.underlying39
 have HB:=am_ (Below.refl w.heap.size w)
 have H:((some (([(⟨(⟨#[98]⟩:ByteArray),(⟨#[97]⟩:ByteArray),(⟨0,0,0⟩:S37)⟩:S39),(⟨(⟨#[97]⟩:ByteArray),(⟨#[]⟩:ByteArray),(⟨0,0,0⟩:S37)⟩:S39)]:List (S39)):List (S39))).bind fun y1=>((want_Top.f y1).bind fun t4=>((want_Check.f k ([]:List (S39))).bind fun t7=>((law1_Num.f t7).bind fun t8=>(if t8=0 then (if (t4.length:Int)=2 then (if 0<(t4.length:Int) then (if ((rd_T39 t4 0).f0).toList=([97]:List UInt8) then ((want_Depth.f y1 (⟨#[98]⟩:ByteArray)).bind fun t10=>(some (t10==2))) else (some false)) else (none)) else (some false)) else (some false))))))=some r:=h
 clear h
 obtain ⟨y1,hy1⟩: ∃y_:List (S39),y_=(([(⟨(⟨#[98]⟩:ByteArray),(⟨#[97]⟩:ByteArray),(⟨0,0,0⟩:S37)⟩:S39),(⟨(⟨#[97]⟩:ByteArray),(⟨#[]⟩:ByteArray),(⟨0,0,0⟩:S37)⟩:S39)]:List (S39))):=⟨_,rfl⟩
 replace H:((want_Top.f y1).bind fun t4=>((want_Check.f k ([]:List (S39))).bind fun t7=>((law1_Num.f t7).bind fun t8=>(if t8=0 then (if (t4.length:Int)=2 then (if 0<(t4.length:Int) then (if ((rd_T39 t4 0).f0).toList=([97]:List UInt8) then ((want_Depth.f y1 (⟨#[98]⟩:ByteArray)).bind fun t10=>(some (t10==2))) else (some false)) else (none)) else (some false)) else (some false)))))=some r:=by first|(rw [hy1];with_reducible exact H)|(have H2_:=(Option.bind_some _ _).symm.trans H;rw [hy1];with_reducible exact H2_)|(have H2_:=(Option.bind_some _ _).symm.trans H;with_reducible exact H2_)|with_reducible exact H|(rw [hy1];exact H)|exact H
 have Ny1:=Aside0.mk hy1
 clear hy1
 replace H:=Option.bind_eq_some_iff.mp H
 obtain ⟨t4,A10,H⟩:=H
 try dsimp only at H
 have A1:=Aside0.mk A10
 clear A10
 replace H:=Option.bind_eq_some_iff.mp H
 obtain ⟨t7,A20,H⟩:=H
 try dsimp only at H
 have A2:=Aside0.mk A20
 clear A20
 replace H:=Option.bind_eq_some_iff.mp H
 obtain ⟨t8,A30,H⟩:=H
 try dsimp only at H
 have A3:=Aside0.mk A30
 clear A30
 by_cases c4:t8=0
 rotate_left
 ·rw [if_neg c4] at H
  have c4b0:(t8==0)=false:=beq_eq_false_iff_ne.mpr c4
  have c4b1:(t8 !=0)=true:=bne_iff_ne.mpr c4
  obtain rfl:=Option.some.inj H
  go_enter Try.func23,Try.ntmps23
  go_wp2_with (first|((with_reducible refine gate_dst (N:=5) rfl ?_);(try (refine gate_guard (by rfl) ?_;dsimp only));refine Kd.R_lit k39 _ 39 ?hg (N:=5) ?hd (xs:=([(⟨(⟨#[98]⟩:ByteArray),(⟨#[97]⟩:ByteArray),(⟨0,0,0⟩:S37)⟩:S39),(⟨(⟨#[97]⟩:ByteArray),(⟨#[]⟩:ByteArray),(⟨0,0,0⟩:S37)⟩:S39)]:List (S39))) (inner:=[.string (⟨#[98]⟩:ByteArray), .string (⟨#[97]⟩:ByteArray), .int .i64 0, .int .i64 0, .int .i64 0, .string (⟨#[97]⟩:ByteArray), .string (⟨#[]⟩:ByteArray), .int .i64 0, .int .i64 0, .int .i64 0]) (ok:=fun _=>True) (okp:=fun _=>True) ?hr ?hp (fun _ hk=>hk) trivial (Below.refl _ _) (Nat.le_refl _) (by simp) ?_;(case hd=>rfl);(case hg=>rfl);(case hr=>first|(go_simp;done)|(go_simp;rfl));(case hp=>exact (Reps.c5 (show Kd.M k39 _ _ _ (⟨(⟨#[98]⟩:ByteArray),(⟨#[97]⟩:ByteArray),(⟨0,0,0⟩:S37)⟩:S39) [.string (⟨#[98]⟩:ByteArray), .string (⟨#[97]⟩:ByteArray), .int .i64 0, .int .i64 0, .int .i64 0] from (k39_mkM _ _ _ (⟨(⟨#[98]⟩:ByteArray),(⟨#[97]⟩:ByteArray),(⟨0,0,0⟩:S37)⟩:S39))) (Reps.c5 (show Kd.M k39 _ _ _ (⟨(⟨#[97]⟩:ByteArray),(⟨#[]⟩:ByteArray),(⟨0,0,0⟩:S37)⟩:S39) [.string (⟨#[97]⟩:ByteArray), .string (⟨#[]⟩:ByteArray), .int .i64 0, .int .i64 0, .int .i64 0] from (k39_mkM _ _ _ (⟨(⟨#[97]⟩:ByteArray),(⟨#[]⟩:ByteArray),(⟨0,0,0⟩:S37)⟩:S39))) (Reps.none _ _))));intro v2 w28 ho29 hb hg_ hnew_;clear hg_ hnew_;(first|rw [←Ny1.out] at ho29|(simp only [Int.reduceToNat] at ho29;rw [←Ny1.out] at ho29));have HO3:=am_ (Kd.R_lower ho29 (below_size (zl0_ HB)));replace HB:=am_ (below_step (zl0_ HB) hb);clear hb ho29;obtain ⟨Ao30,co30,eo30⟩:=Kd.R_slice HO3.out;subst eo30)|((with_reducible refine gate_callee (f:=30) rfl ?_);refine gl_ (some 7) Try.func30 #[.slice Ao30 y1.length co30] ?_;(with_reducible refine (want_Top.calls _ _ y1 t4 _ ?side1 ?side2 A1.out).mono ?_);(case side1=>exact zc_ (Kd.R_reads' HO3.out).2.2);(case side2=>exact (Kd.R_reads' HO3.out).2.1);rintro e w31 ⟨v5,rfl,ho0,hb⟩;refine ⟨_,rfl, ?_⟩;have HO6:=am_ (Kd.R_lower (Kd.R_new' ho0 (Kd.R_lt (zr_ HO3))) (below_size (zl0_ HB)));replace HO3:=am_ (Kd.R_elder' (zr_ HO3) (Kd.R_base ho0) hb);replace HB:=am_ (below_step (zl0_ HB) hb);(try clear hb);(try clear hb2);(try clear hk);(try clear hi);(try clear ho0))|((with_reducible refine gate_callee (f:=26) rfl ?_);refine gl_ (some 8) Try.func26 #[.slice none 0 0] ?_;(refine (want_Check.calls k _ _ ([]:List (S39)) t7 _ ?side1 ?side2 A2.out).mono ?_);(case side1=>exact Kd.C_nil _ _);(case side2=>exact Nat.le_refl _);rintro e w32 ⟨rfl,hb⟩;refine ⟨_,rfl, ?_⟩;replace HO3:=am_ (Kd.R_below (zr_ HO3) hb);replace HO6:=am_ (Kd.R_below (zr_ HO6) hb);replace HB:=am_ (below_step (zl0_ HB) hb);(try clear hb);(try clear hb2);(try clear hk);(try clear hi))|((with_reducible refine gate_callee (f:=25) rfl ?_);refine gl_ (some 9) Try.func25 #[.int .i64 t7] ?_;(with_reducible refine (law1_Num.calls t7 t8 _ A3.out).mono ?_);rintro e w' ⟨rfl,⟨nd,rfl⟩⟩;refine ⟨_,rfl, ?_⟩))
  go_ret
  exact ⟨by first|rfl|(simp [errW_none,errW_some]<;>rfl)|(simp [*,errW_none,errW_some]<;>rfl),zl0_ HB⟩

 rw [if_pos c4] at H
 have c4b0:(t8==0)=true:=beq_iff_eq.mpr c4
 have c4b1:(t8 !=0)=false:=bne_eq_false_iff_eq.mpr c4
 clear c4
 by_cases c5:(t4.length:Int)=2
 rotate_left
 ·rw [if_neg c5] at H
  have c5b0:((t4.length:Int)==2)=false:=beq_eq_false_iff_ne.mpr c5
  have c5b1:((t4.length:Int) !=2)=true:=bne_iff_ne.mpr c5
  obtain rfl:=Option.some.inj H
  go_enter Try.func23,Try.ntmps23
  go_wp2_with (first|((with_reducible refine gate_dst (N:=5) rfl ?_);(try (refine gate_guard (by rfl) ?_;dsimp only));refine Kd.R_lit k39 _ 39 ?hg (N:=5) ?hd (xs:=([(⟨(⟨#[98]⟩:ByteArray),(⟨#[97]⟩:ByteArray),(⟨0,0,0⟩:S37)⟩:S39),(⟨(⟨#[97]⟩:ByteArray),(⟨#[]⟩:ByteArray),(⟨0,0,0⟩:S37)⟩:S39)]:List (S39))) (inner:=[.string (⟨#[98]⟩:ByteArray), .string (⟨#[97]⟩:ByteArray), .int .i64 0, .int .i64 0, .int .i64 0, .string (⟨#[97]⟩:ByteArray), .string (⟨#[]⟩:ByteArray), .int .i64 0, .int .i64 0, .int .i64 0]) (ok:=fun _=>True) (okp:=fun _=>True) ?hr ?hp (fun _ hk=>hk) trivial (Below.refl _ _) (Nat.le_refl _) (by simp) ?_;(case hd=>rfl);(case hg=>rfl);(case hr=>first|(go_simp;done)|(go_simp;rfl));(case hp=>exact (Reps.c5 (show Kd.M k39 _ _ _ (⟨(⟨#[98]⟩:ByteArray),(⟨#[97]⟩:ByteArray),(⟨0,0,0⟩:S37)⟩:S39) [.string (⟨#[98]⟩:ByteArray), .string (⟨#[97]⟩:ByteArray), .int .i64 0, .int .i64 0, .int .i64 0] from (k39_mkM _ _ _ (⟨(⟨#[98]⟩:ByteArray),(⟨#[97]⟩:ByteArray),(⟨0,0,0⟩:S37)⟩:S39))) (Reps.c5 (show Kd.M k39 _ _ _ (⟨(⟨#[97]⟩:ByteArray),(⟨#[]⟩:ByteArray),(⟨0,0,0⟩:S37)⟩:S39) [.string (⟨#[97]⟩:ByteArray), .string (⟨#[]⟩:ByteArray), .int .i64 0, .int .i64 0, .int .i64 0] from (k39_mkM _ _ _ (⟨(⟨#[97]⟩:ByteArray),(⟨#[]⟩:ByteArray),(⟨0,0,0⟩:S37)⟩:S39))) (Reps.none _ _))));intro v2 w22 ho23 hb hg_ hnew_;clear hg_ hnew_;(first|rw [←Ny1.out] at ho23|(simp only [Int.reduceToNat] at ho23;rw [←Ny1.out] at ho23));have HO3:=am_ (Kd.R_lower ho23 (below_size (zl0_ HB)));replace HB:=am_ (below_step (zl0_ HB) hb);clear hb ho23;obtain ⟨Ao24,co24,eo24⟩:=Kd.R_slice HO3.out;subst eo24)|((with_reducible refine gate_callee (f:=30) rfl ?_);refine gl_ (some 7) Try.func30 #[.slice Ao24 y1.length co24] ?_;(with_reducible refine (want_Top.calls _ _ y1 t4 _ ?side1 ?side2 A1.out).mono ?_);(case side1=>exact zc_ (Kd.R_reads' HO3.out).2.2);(case side2=>exact (Kd.R_reads' HO3.out).2.1);rintro e w25 ⟨v5,rfl,ho0,hb⟩;refine ⟨_,rfl, ?_⟩;have HO6:=am_ (Kd.R_lower (Kd.R_new' ho0 (Kd.R_lt (zr_ HO3))) (below_size (zl0_ HB)));replace HO3:=am_ (Kd.R_elder' (zr_ HO3) (Kd.R_base ho0) hb);replace HB:=am_ (below_step (zl0_ HB) hb);(try clear hb);(try clear hb2);(try clear hk);(try clear hi);(try clear ho0))|((with_reducible refine gate_callee (f:=26) rfl ?_);refine gl_ (some 8) Try.func26 #[.slice none 0 0] ?_;(refine (want_Check.calls k _ _ ([]:List (S39)) t7 _ ?side1 ?side2 A2.out).mono ?_);(case side1=>exact Kd.C_nil _ _);(case side2=>exact Nat.le_refl _);rintro e w26 ⟨rfl,hb⟩;refine ⟨_,rfl, ?_⟩;replace HO3:=am_ (Kd.R_below (zr_ HO3) hb);replace HO6:=am_ (Kd.R_below (zr_ HO6) hb);replace HB:=am_ (below_step (zl0_ HB) hb);(try clear hb);(try clear hb2);(try clear hk);(try clear hi))|((with_reducible refine gate_callee (f:=25) rfl ?_);refine gl_ (some 9) Try.func25 #[.int .i64 t7] ?_;(with_reducible refine (law1_Num.calls t7 t8 _ A3.out).mono ?_);rintro e w' ⟨rfl,⟨nd,rfl⟩⟩;refine ⟨_,rfl, ?_⟩;obtain ⟨Ao27,co27,eo27⟩:=Kd.R_slice HO6.out;subst eo27))
  go_ret
  exact ⟨by first|rfl|(simp [errW_none,errW_some]<;>rfl)|(simp [*,errW_none,errW_some]<;>rfl),zl0_ HB⟩
 rw [if_pos c5] at H
 have c5b0:((t4.length:Int)==2)=true:=beq_iff_eq.mpr c5
 have c5b1:((t4.length:Int) !=2)=false:=bne_eq_false_iff_eq.mpr c5
 clear c5
 by_cases c6:0<(t4.length:Int)
 rotate_left
 ·rw [if_neg c6] at H
  exact absurd H (by simp)
 rw [if_pos c6] at H
 have c6b0:decide (0<(t4.length:Int))=true:=decide_eq_true c6
 have c6b1:decide (0<t4.length)=true:=decide_eq_true (by omega)
 clear c6
 by_cases c7:((rd_T39 t4 0).f0).toList=([97]:List UInt8)
 rotate_left
 ·rw [if_neg c7] at H
  have c7b0:(((rd_T39 t4 0).f0).toList==([97]:List UInt8))=false:=beq_eq_false_iff_ne.mpr c7
  have c7b1:(((rd_T39 t4 0).f0).toList !=([97]:List UInt8))=true:=bne_iff_ne.mpr c7
  obtain rfl:=Option.some.inj H
  go_enter Try.func23,Try.ntmps23
  go_wp2_with (first|((with_reducible refine gate_dst (N:=5) rfl ?_);(try (refine gate_guard (by rfl) ?_;dsimp only));refine Kd.R_lit k39 _ 39 ?hg (N:=5) ?hd (xs:=([(⟨(⟨#[98]⟩:ByteArray),(⟨#[97]⟩:ByteArray),(⟨0,0,0⟩:S37)⟩:S39),(⟨(⟨#[97]⟩:ByteArray),(⟨#[]⟩:ByteArray),(⟨0,0,0⟩:S37)⟩:S39)]:List (S39))) (inner:=[.string (⟨#[98]⟩:ByteArray), .string (⟨#[97]⟩:ByteArray), .int .i64 0, .int .i64 0, .int .i64 0, .string (⟨#[97]⟩:ByteArray), .string (⟨#[]⟩:ByteArray), .int .i64 0, .int .i64 0, .int .i64 0]) (ok:=fun _=>True) (okp:=fun _=>True) ?hr ?hp (fun _ hk=>hk) trivial (Below.refl _ _) (Nat.le_refl _) (by simp) ?_;(case hd=>rfl);(case hg=>rfl);(case hr=>first|(go_simp;done)|(go_simp;rfl));(case hp=>exact (Reps.c5 (show Kd.M k39 _ _ _ (⟨(⟨#[98]⟩:ByteArray),(⟨#[97]⟩:ByteArray),(⟨0,0,0⟩:S37)⟩:S39) [.string (⟨#[98]⟩:ByteArray), .string (⟨#[97]⟩:ByteArray), .int .i64 0, .int .i64 0, .int .i64 0] from (k39_mkM _ _ _ (⟨(⟨#[98]⟩:ByteArray),(⟨#[97]⟩:ByteArray),(⟨0,0,0⟩:S37)⟩:S39))) (Reps.c5 (show Kd.M k39 _ _ _ (⟨(⟨#[97]⟩:ByteArray),(⟨#[]⟩:ByteArray),(⟨0,0,0⟩:S37)⟩:S39) [.string (⟨#[97]⟩:ByteArray), .string (⟨#[]⟩:ByteArray), .int .i64 0, .int .i64 0, .int .i64 0] from (k39_mkM _ _ _ (⟨(⟨#[97]⟩:ByteArray),(⟨#[]⟩:ByteArray),(⟨0,0,0⟩:S37)⟩:S39))) (Reps.none _ _))));intro v2 w16 ho17 hb hg_ hnew_;clear hg_ hnew_;(first|rw [←Ny1.out] at ho17|(simp only [Int.reduceToNat] at ho17;rw [←Ny1.out] at ho17));have HO3:=am_ (Kd.R_lower ho17 (below_size (zl0_ HB)));replace HB:=am_ (below_step (zl0_ HB) hb);clear hb ho17;obtain ⟨Ao18,co18,eo18⟩:=Kd.R_slice HO3.out;subst eo18)|((with_reducible refine gate_callee (f:=30) rfl ?_);refine gl_ (some 7) Try.func30 #[.slice Ao18 y1.length co18] ?_;(with_reducible refine (want_Top.calls _ _ y1 t4 _ ?side1 ?side2 A1.out).mono ?_);(case side1=>exact zc_ (Kd.R_reads' HO3.out).2.2);(case side2=>exact (Kd.R_reads' HO3.out).2.1);rintro e w19 ⟨v5,rfl,ho0,hb⟩;refine ⟨_,rfl, ?_⟩;have HO6:=am_ (Kd.R_lower (Kd.R_new' ho0 (Kd.R_lt (zr_ HO3))) (below_size (zl0_ HB)));replace HO3:=am_ (Kd.R_elder' (zr_ HO3) (Kd.R_base ho0) hb);replace HB:=am_ (below_step (zl0_ HB) hb);(try clear hb);(try clear hb2);(try clear hk);(try clear hi);(try clear ho0))|((with_reducible refine gate_callee (f:=26) rfl ?_);refine gl_ (some 8) Try.func26 #[.slice none 0 0] ?_;(refine (want_Check.calls k _ _ ([]:List (S39)) t7 _ ?side1 ?side2 A2.out).mono ?_);(case side1=>exact Kd.C_nil _ _);(case side2=>exact Nat.le_refl _);rintro e w20 ⟨rfl,hb⟩;refine ⟨_,rfl, ?_⟩;replace HO3:=am_ (Kd.R_below (zr_ HO3) hb);replace HO6:=am_ (Kd.R_below (zr_ HO6) hb);replace HB:=am_ (below_step (zl0_ HB) hb);(try clear hb);(try clear hb2);(try clear hk);(try clear hi))|((with_reducible refine gate_callee (f:=25) rfl ?_);refine gl_ (some 9) Try.func25 #[.int .i64 t7] ?_;(with_reducible refine (law1_Num.calls t7 t8 _ A3.out).mono ?_);rintro e w' ⟨rfl,⟨nd,rfl⟩⟩;refine ⟨_,rfl, ?_⟩;obtain ⟨Ao21,co21,eo21⟩:=Kd.R_slice HO6.out;subst eo21;have p9:0≤(0:Int):=(by omega);have q9:0<(t4.length:Int):=of_decide_eq_true zq_;obtain ⟨ad9,e9,hx9_0,hx9_1,hx9_2,hx9_3,hx9_4⟩:=at_T39 (Kd.R_reads' HO6.out).2.2 0 p9 q9;cases e9;have qi9:(0<t4.length)=True:=eq_true (by omega);(try rw [show ((0:Int)).toNat=0 from rfl] at hx9_0);(try rw [show 0*5=0 from rfl] at hx9_0);(try rw [Addr.add_zero'] at hx9_0);(try rw [show ((0:Int)).toNat=0 from rfl] at hx9_1);(try rw [show 0*5=0 from rfl] at hx9_1);(try rw [Addr.add_zero'] at hx9_1);(try rw [show ((0:Int)).toNat=0 from rfl] at hx9_2);(try rw [show 0*5=0 from rfl] at hx9_2);(try rw [Addr.add_zero'] at hx9_2);(try rw [show ((0:Int)).toNat=0 from rfl] at hx9_3);(try rw [show 0*5=0 from rfl] at hx9_3);(try rw [Addr.add_zero'] at hx9_3);(try rw [show ((0:Int)).toNat=0 from rfl] at hx9_4);(try rw [show 0*5=0 from rfl] at hx9_4);(try rw [Addr.add_zero'] at hx9_4);replace p9:=eq_true p9;replace q9:=eq_true q9))
  go_ret
  exact ⟨by first|rfl|(simp [errW_none,errW_some]<;>rfl)|(simp [*,errW_none,errW_some]<;>rfl),zl0_ HB⟩
 rw [if_pos c7] at H
 have c7b0:(((rd_T39 t4 0).f0).toList==([97]:List UInt8))=true:=beq_iff_eq.mpr c7
 have c7b1:(((rd_T39 t4 0).f0).toList !=([97]:List UInt8))=false:=bne_eq_false_iff_eq.mpr c7
 clear c7
 replace H:=Option.bind_eq_some_iff.mp H
 obtain ⟨t10,A80,H⟩:=H
 try dsimp only at H
 have A8:=Aside0.mk A80
 clear A80
 obtain rfl:=Option.some.inj H
 go_enter Try.func23,Try.ntmps23
 go_wp2_with (first|((with_reducible refine gate_dst (N:=5) rfl ?_);(try (refine gate_guard (by rfl) ?_;dsimp only));refine Kd.R_lit k39 _ 39 ?hg (N:=5) ?hd (xs:=([(⟨(⟨#[98]⟩:ByteArray),(⟨#[97]⟩:ByteArray),(⟨0,0,0⟩:S37)⟩:S39),(⟨(⟨#[97]⟩:ByteArray),(⟨#[]⟩:ByteArray),(⟨0,0,0⟩:S37)⟩:S39)]:List (S39))) (inner:=[.string (⟨#[98]⟩:ByteArray), .string (⟨#[97]⟩:ByteArray), .int .i64 0, .int .i64 0, .int .i64 0, .string (⟨#[97]⟩:ByteArray), .string (⟨#[]⟩:ByteArray), .int .i64 0, .int .i64 0, .int .i64 0]) (ok:=fun _=>True) (okp:=fun _=>True) ?hr ?hp (fun _ hk=>hk) trivial (Below.refl _ _) (Nat.le_refl _) (by simp) ?_;(case hd=>rfl);(case hg=>rfl);(case hr=>first|(go_simp;done)|(go_simp;rfl));(case hp=>exact (Reps.c5 (show Kd.M k39 _ _ _ (⟨(⟨#[98]⟩:ByteArray),(⟨#[97]⟩:ByteArray),(⟨0,0,0⟩:S37)⟩:S39) [.string (⟨#[98]⟩:ByteArray), .string (⟨#[97]⟩:ByteArray), .int .i64 0, .int .i64 0, .int .i64 0] from (k39_mkM _ _ _ (⟨(⟨#[98]⟩:ByteArray),(⟨#[97]⟩:ByteArray),(⟨0,0,0⟩:S37)⟩:S39))) (Reps.c5 (show Kd.M k39 _ _ _ (⟨(⟨#[97]⟩:ByteArray),(⟨#[]⟩:ByteArray),(⟨0,0,0⟩:S37)⟩:S39) [.string (⟨#[97]⟩:ByteArray), .string (⟨#[]⟩:ByteArray), .int .i64 0, .int .i64 0, .int .i64 0] from (k39_mkM _ _ _ (⟨(⟨#[97]⟩:ByteArray),(⟨#[]⟩:ByteArray),(⟨0,0,0⟩:S37)⟩:S39))) (Reps.none _ _))));intro v2 w9 ho10 hb hg_ hnew_;clear hg_ hnew_;(first|rw [←Ny1.out] at ho10|(simp only [Int.reduceToNat] at ho10;rw [←Ny1.out] at ho10));have HO3:=am_ (Kd.R_lower ho10 (below_size (zl0_ HB)));replace HB:=am_ (below_step (zl0_ HB) hb);clear hb ho10;obtain ⟨Ao11,co11,eo11⟩:=Kd.R_slice HO3.out;subst eo11)|((with_reducible refine gate_callee (f:=30) rfl ?_);refine gl_ (some 7) Try.func30 #[.slice Ao11 y1.length co11] ?_;(with_reducible refine (want_Top.calls _ _ y1 t4 _ ?side1 ?side2 A1.out).mono ?_);(case side1=>exact zc_ (Kd.R_reads' HO3.out).2.2);(case side2=>exact (Kd.R_reads' HO3.out).2.1);rintro e w12 ⟨v5,rfl,ho0,hb⟩;refine ⟨_,rfl, ?_⟩;have HO6:=am_ (Kd.R_lower (Kd.R_new' ho0 (Kd.R_lt (zr_ HO3))) (below_size (zl0_ HB)));replace HO3:=am_ (Kd.R_elder' (zr_ HO3) (Kd.R_base ho0) hb);replace HB:=am_ (below_step (zl0_ HB) hb);(try clear hb);(try clear hb2);(try clear hk);(try clear hi);(try clear ho0))|((with_reducible refine gate_callee (f:=26) rfl ?_);refine gl_ (some 8) Try.func26 #[.slice none 0 0] ?_;(refine (want_Check.calls k _ _ ([]:List (S39)) t7 _ ?side1 ?side2 A2.out).mono ?_);(case side1=>exact Kd.C_nil _ _);(case side2=>exact Nat.le_refl _);rintro e w13 ⟨rfl,hb⟩;refine ⟨_,rfl, ?_⟩;replace HO3:=am_ (Kd.R_below (zr_ HO3) hb);replace HO6:=am_ (Kd.R_below (zr_ HO6) hb);replace HB:=am_ (below_step (zl0_ HB) hb);(try clear hb);(try clear hb2);(try clear hk);(try clear hi))|((with_reducible refine gate_callee (f:=25) rfl ?_);refine gl_ (some 9) Try.func25 #[.int .i64 t7] ?_;(with_reducible refine (law1_Num.calls t7 t8 _ A3.out).mono ?_);rintro e w' ⟨rfl,⟨nd,rfl⟩⟩;refine ⟨_,rfl, ?_⟩;obtain ⟨Ao14,co14,eo14⟩:=Kd.R_slice HO6.out;subst eo14;have p9:0≤(0:Int):=(by omega);have q9:0<(t4.length:Int):=of_decide_eq_true zq_;obtain ⟨ad9,e9,hx9_0,hx9_1,hx9_2,hx9_3,hx9_4⟩:=at_T39 (Kd.R_reads' HO6.out).2.2 0 p9 q9;cases e9;have qi9:(0<t4.length)=True:=eq_true (by omega);(try rw [show ((0:Int)).toNat=0 from rfl] at hx9_0);(try rw [show 0*5=0 from rfl] at hx9_0);(try rw [Addr.add_zero'] at hx9_0);(try rw [show ((0:Int)).toNat=0 from rfl] at hx9_1);(try rw [show 0*5=0 from rfl] at hx9_1);(try rw [Addr.add_zero'] at hx9_1);(try rw [show ((0:Int)).toNat=0 from rfl] at hx9_2);(try rw [show 0*5=0 from rfl] at hx9_2);(try rw [Addr.add_zero'] at hx9_2);(try rw [show ((0:Int)).toNat=0 from rfl] at hx9_3);(try rw [show 0*5=0 from rfl] at hx9_3);(try rw [Addr.add_zero'] at hx9_3);(try rw [show ((0:Int)).toNat=0 from rfl] at hx9_4);(try rw [show 0*5=0 from rfl] at hx9_4);(try rw [Addr.add_zero'] at hx9_4);replace p9:=eq_true p9;replace q9:=eq_true q9)|(go_at_call 27;(with_reducible refine (want_Depth.calls _ _ y1 (⟨#[98]⟩:ByteArray) t10 _ ?side1 ?side2 A8.out).mono ?_);(case side1=>exact zc_ (Kd.R_reads' HO3.out).2.2);(case side2=>exact (Kd.R_reads' HO3.out).2.1);rintro e w15 ⟨rfl,hb⟩;replace HO3:=am_ (Kd.R_below (zr_ HO3) hb);replace HO6:=am_ (Kd.R_below (zr_ HO6) hb);replace HB:=am_ (below_step (zl0_ HB) hb);(try clear hb);(try clear hb2);(try clear hk);(try clear hi)))
 go_ret
 exact ⟨by first|rfl|(simp [errW_none,errW_some]<;>rfl)|(simp [*,errW_none,errW_some]<;>rfl),zl0_ HB⟩
end Go.Proofs.Ytahidkjncljkaaa.Print

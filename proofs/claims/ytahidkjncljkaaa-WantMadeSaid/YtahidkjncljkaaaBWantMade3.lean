/- WantMade: a part -/
import Derived.Test.YtahidkjncljkaaaBWantMade0
import Derived.Test.YtahidkjncljkaaaBWantMade1
import Derived.Test.YtahidkjncljkaaaBWantMade2
set_option linter.unusedVariables false
set_option linter.unusedSimpArgs false
namespace Go.Proofs.Ytahidkjncljkaaa.Print
open Go.RowKit Go.Proofs.YtahidkjncljkaaaW.PrintWords Go.Proofs.YtahidkjncljkaaaW.PrintLast
theorem r10_Le_eq (a b d a' b' d':Int):r10_Le.f a b d a' b' d'=some (decide (LeP ⟨a,b,d⟩ ⟨a',b',d'⟩)):=by
 unfold r10_Le.f
 by_cases h0:a≤a'<;>by_cases h1:b≤b'<;>simp [h0,h1,leP_iff]
theorem r10_unit_eq (a:Int):r10_unit.f a=some (decide (0≤a∧a≤1099511627776)):=by
  unfold r10_unit.f
  by_cases h0:0≤a
  · rw [if_pos (by omega)];simp [h0]
  rw [if_neg (by omega)];simp [h0]
theorem r10_MayVec_eq (a b d:Int):r10_MayVec.f a b d=some (decide (MayP ⟨a,b,d⟩)):=by
 unfold r10_MayVec.f
 simp only [r10_unit_eq,Option.bind_some]
 by_cases h0:0≤a∧a≤1099511627776<;>by_cases h1:0≤b∧b≤1099511627776<;>simp [h0,h1,mayP_iff]
theorem r10_MayName_eq (n:ByteArray):r10_MayName.f n=some (decide (n≠⟨#[]⟩∧n.size≤24)):=by
  unfold r10_MayName.f
  by_cases h:n=⟨#[]⟩
  · rw [if_pos (nm_empty.2 h)];simp [h]
  rw [if_neg (fun q=>h (nm_empty.1 q))];simp [h];omega
abbrev Want:=S39
abbrev zWant:Want:=z39
theorem rd_want (l:List Want) (i:Int):rd_T39 l i=l.getD i.toNat zWant:=rfl
theorem rd_wantN (l:List Want) {i:Nat} (h:i<l.length):rd_T39 l (i:Int)=l[i]:=by
 rw [rd_want,Int.toNat_natCast,List.getD_eq_getElem?_getD,List.getElem?_eq_getElem h,Option.getD_some]
def itW (w:Want):Item:=⟨w.f0,w.f1,w.f2,⟨0,0,0⟩,⟨0,0,0⟩,0⟩
def lookW (l:List Want) (n:ByteArray):Option Want:=l.find? (fun x=>x.f0=n)
def wfnd (l:List Want) (n:ByteArray):Int:=fidx (fun x:Want=>x.f0.toList==n.toList) l 0
theorem wlook (l:List Want) (n:ByteArray):look (l.map itW) n=(lookW l n).map itW:=by
  unfold look lookW
  induction l with
  |nil=>rfl
  | cons x l ih =>
    rw [List.map_cons,List.find?_cons,List.find?_cons]
    show (match decide (x.f0=n) with|true=>_|false=>_)=_
    by_cases h:x.f0=n
    · simp [h]
    simp [h,ih]
theorem lookW_mem {l:List Want} {n:ByteArray} {x:Want} (h:lookW l n=some x):x∈l∧x.f0=n:=by
 unfold lookW at h
 exact ⟨List.mem_of_find?_eq_some h,by simpa using List.find?_some h⟩
theorem lookW_none {l:List Want} {n:ByteArray}:lookW l n=none↔ ∀x∈l,x.f0≠n:=by
 unfold lookW
 simp
theorem wpred (n:ByteArray):(fun x:Want=>x.f0.toList==n.toList)=(fun x:Want=>decide (x.f0=n)):=by
 funext x;exact nm_beq _ _
theorem wfnd_none {l:List Want} {n:ByteArray} (h:lookW l n=none):wfnd l n= -1:=by
 unfold wfnd
 refine fidx_none fun x hx=> ?_
 rw [nm_beq]
 simpa using lookW_none.1 h x hx
theorem wfnd_some {l:List Want} {n:ByteArray} {x:Want} (h:lookW l n=some x): ∃j:Nat,j<l.length∧wfnd l n=j∧l.getD j zWant=x∧x.f0=n∧ ∀m,m<j→(l.getD m zWant).f0≠n:=by
 have h':l.find? (fun x:Want=>x.f0.toList==n.toList)=some x:=by rw [wpred];exact h
 obtain ⟨j,h1,h2,h3,h4,h5⟩:=fidx_some zWant (i:=0) h'
 refine ⟨j,h1,by unfold wfnd;rw [h2];omega,h3,by simpa [nm_beq] using h4,fun m hm=> ?_⟩
 simpa [nm_beq] using h5 m hm
theorem wfnd_lt (l:List Want) (n:ByteArray):wfnd l n<l.length:=by
 cases h:lookW l n with
 |none=>rw [wfnd_none h];omega
 |some x=>obtain ⟨j,h1,h2,_⟩:=wfnd_some h;omega
theorem wfnd_neg {l:List Want} {n:ByteArray}:wfnd l n<0↔lookW l n=none:=by
 cases h:lookW l n with
 |none=>rw [wfnd_none h];simp
 |some x=>obtain ⟨j,h1,h2,_⟩:=wfnd_some h;simp;omega
theorem wfnd_ge {l:List Want} {n:ByteArray}:0≤wfnd l n↔ ∃x,lookW l n=some x:=by
 cases h:lookW l n with
 |none=>rw [wfnd_none h];simp
 |some x=>obtain ⟨j,h1,h2,_⟩:=wfnd_some h;simp;omega
theorem wfnd_rd {l:List Want} {n:ByteArray} {x:Want} (h:lookW l n=some x):rd_T39 l (wfnd l n)=x:=by
 obtain ⟨j,h1,h2,h3,_⟩:=wfnd_some h
 rw [rd_want,h2,Int.toNat_natCast];exact h3
theorem r10_wanted_l0 (l:List Want) (n:ByteArray) (hl:l.length<1000000): ∀(d i:Nat),l.length - i=d→i≤l.length→
    Ev (fun k=>r10_wanted.l0 k l n i) (fidx (fun x:Want=>x.f0.toList==n.toList) (l.drop i) i)
  | 0, i, hd, hi => by
    obtain rfl:i=l.length:=by omega
    rw [List.drop_length]
    exact Ev.step (fun k=>r10_wanted.l0.eq_2 (k:=k) ..) (Ev.congr (fun k=>if_neg (by omega)) (Ev.now _))
  | d + 1, i, hd, hi => by
    have hlt:i<l.length:=by omega
    rw [fidx_drop _ zWant l i hlt]
    have hrd:rd_T39 l (i:Int)=l.getD i zWant:=by rw [rd_want,Int.toNat_natCast]
    have e3:wrap64 ((i:Int)+1)=((i+1:Nat):Int):=by rw [w64 (by omega) (by omega)];rfl
    refine Ev.step (fun k=>r10_wanted.l0.eq_2 (k:=k) ..) (Ev.congr (fun k=>by rw [if_pos (show (i:Int)<(l.length:Int) by omega),if_pos (show 0≤(i:Int) by omega),hrd,e3]) ?_)
    by_cases e:(l.getD i zWant).f0.toList=n.toList
    · rw [if_pos (beq_iff_eq.2 e)]
      exact Ev.congr (fun k=>if_pos e) (Ev.now _)
    rw [if_neg (fun q=>e (beq_iff_eq.1 q))]
    exact Ev.congr (fun k=>if_neg e) (r10_wanted_l0 l n hl d (i+1) (by omega) (by omega))
theorem r10_wanted_ev (l:List Want) (n:ByteArray) (hl:l.length<1000000):Ev (fun k=>r10_wanted.f k l n) (wfnd l n):=r10_wanted_l0 l n hl _ 0 rfl (by omega)
def depGo (l:List Want):Nat→Int→ByteArray→Int
  |0,_,_=> -1
  | m + 1, d, n => match lookW l n with
    |none=>0
    |some w=>if d+1>(l.length:Int) then -1 else if w.f1=⟨#[]⟩ then d+1 else depGo l m (d+1) w.f1
def depR (l:List Want) (n:ByteArray):Int:=depGo l (l.length+1) 0 n
theorem depGo_succ (l:List Want) (m:Nat) (d:Int) (n:ByteArray):depGo l (m+1) d n=match lookW l n with
 |none=>0
 |some w=>if d+1>(l.length:Int) then -1 else if w.f1=⟨#[]⟩ then d+1 else depGo l m (d+1) w.f1:=rfl
theorem r10_Depth_l0 (l:List Want) (hl:l.length<1000000): ∀(m:Nat) (d:Int) (n:ByteArray),0≤d→d+m=l.length→Ev (fun k=>r10_Depth.l0 k l d (wfnd l n)) (depGo l (m+1) d n)
  | m, d, n, h0, hm => by
    rw [depGo_succ]
    refine Ev.step (fun k=>r10_Depth.l0.eq_2 (k:=k) ..) ?_
    rw [w64 (n:=d+1) (by omega) (by omega)]
    cases h:lookW l n with
    |none=>exact Ev.congr (fun k=>if_neg (by have:=wfnd_neg.2 h;omega)) (Ev.now _)
    | some x =>
      have g0:=wfnd_ge.2 ⟨x,h⟩
      have g1:=wfnd_lt l n
      rw [wfnd_rd h]
      dsimp only
      by_cases c:d+1>(l.length:Int)
      · rw [if_pos c]
        exact Ev.congr (fun k=>by rw [if_pos g0,if_pos c]) (Ev.now _)
      rw [if_neg c]
      by_cases e:x.f1=⟨#[]⟩
      · rw [if_pos e]
        exact Ev.congr (fun k=>by rw [if_pos g0,if_neg c,if_pos g0,if_pos g1,if_pos (nm_empty.2 e)]) (Ev.now _)
      rw [if_neg e]
      refine Ev.congr (fun k=>by rw [if_pos g0,if_neg c,if_pos g0,if_pos g1,if_neg (fun q=>e (nm_empty.1 q))]) (Ev.bind (r10_wanted_ev l x.f1 hl) ?_)
      match m,hm with
      |0,hm=>omega
      |m+1,hm=>exact r10_Depth_l0 l hl m (d+1) x.f1 (by omega) (by omega)
theorem r10_Depth_ev (l:List Want) (n:ByteArray) (hl:l.length<1000000):Ev (fun k=>r10_Depth.f k l n) (depR l n):=by
 unfold r10_Depth.f
 exact Ev.bind (r10_wanted_ev l n hl) (r10_Depth_l0 l hl l.length 0 n (by omega) (by omega))
def ParW (l:List Want):Prop:=(∀w∈l,w.f0≠⟨#[]⟩)∧ ∀w∈l,w.f1≠⟨#[]⟩→ ∃x,lookW l w.f1=some x
abbrev ChainW (l:List Want) (n:ByteArray) (us:List ByteArray):Prop:=Chain (l.map itW) n us
theorem ParW.root {l:List Want} (h:ParW l):lookW l ⟨#[]⟩=none:=lookW_none.2 fun x hx e=>h.1 x hx e
theorem chainW_cons {l:List Want} {n:ByteArray} {us:List ByteArray} {x:Want} (h:lookW l n=some x) (k:ChainW l x.f1 us):ChainW l n (n::us):= .cons (x:=itW x) (by rw [wlook,h];rfl) k
theorem chainW_nil {l:List Want} {n:ByteArray} (h:lookW l n=none):ChainW l n []:= .nil (by rw [wlook,h];rfl)
theorem chainW_inv {l:List Want} {n:ByteArray} {us:List ByteArray} (h:ChainW l n us):(lookW l n=none∧us=[])∨ ∃x vs,lookW l n=some x∧us=n::vs∧ChainW l x.f1 vs:=by
  cases h with
  | nil h1 =>
    rw [wlook] at h1
    exact .inl ⟨by simpa using h1,rfl⟩
  | @cons _ y vs h1 k =>
    rw [wlook] at h1
    obtain ⟨x,hx,rfl⟩:=Option.map_eq_some_iff.1 h1
    exact .inr ⟨x,vs,hx,rfl,k⟩
theorem chainW_len {l:List Want} {n:ByteArray} {us:List ByteArray} (h:ChainW l n us):us.length≤l.length:=by
 have:=h.len
 rwa [List.length_map] at this
theorem depGo_chain {l:List Want} (hp:ParW l): ∀(us:List ByteArray) (m:Nat) (d:Int) (n:ByteArray),ChainW l n us→d+us.length≤l.length→us.length≤m→depGo l (m+1) d n=if us=[] then 0 else d+us.length
  | us, m, d, n, h, hd, hm => by
    rw [depGo_succ]
    rcases chainW_inv h with ⟨h0,e0⟩|⟨x,vs,h0,e0,k⟩
    · subst e0
      rw [h0,if_pos rfl]
    subst e0
    rw [h0]
    dsimp only
    rw [List.length_cons] at hd hm ⊢
    rw [if_neg (show¬d+1>(l.length:Int) by omega),if_neg (show¬(n::vs=[]) by simp)]
    rcases chainW_inv k with ⟨h1,rfl⟩|⟨y,ws,h1,rfl,k1⟩
    · have e:x.f1=⟨#[]⟩:=by
        refine Classical.byContradiction fun q=> ?_
        obtain ⟨z,hz⟩:=hp.2 x (lookW_mem h0).1 q
        rw [h1] at hz;cases hz
      rw [if_pos e];rfl
    have e:x.f1≠⟨#[]⟩:=fun q=>by rw [q,hp.root] at h1;cases h1
    rw [if_neg e]
    match m,hm with
    |0,hm=>omega
    | m + 1, hm =>
      rw [depGo_chain hp (x.f1::ws) m (d+1) x.f1 k (by omega) (by omega),if_neg (by simp)]
      omega
theorem depGo_none {l:List Want} (hp:ParW l): ∀(m:Nat) (d:Int) (n:ByteArray),d+m=l.length→(∀us,¬ChainW l n us)→depGo l (m+1) d n= -1
  | m, d, n, hd, h => by
    rw [depGo_succ]
    cases hx:lookW l n with
    |none=>exact absurd (chainW_nil hx) (h [])
    | some x =>
      dsimp only
      by_cases c:d+1>(l.length:Int)
      · rw [if_pos c]
      have e:x.f1≠⟨#[]⟩:=fun q=>h [n] (chainW_cons hx (chainW_nil (by rw [q];exact hp.root)))
      rw [if_neg c,if_neg e]
      match m,hd with
      |0,hd=>omega
      |m+1,hd=>exact depGo_none hp m (d+1) x.f1 (by omega) (fun us k=>h _ (chainW_cons hx k))
theorem depR_chain {l:List Want} (hp:ParW l) {n:ByteArray} {us:List ByteArray} (h:ChainW l n us):depR l n=us.length:=by
  have hl:=chainW_len h
  unfold depR
  rw [depGo_chain hp us l.length 0 n h (by omega) hl]
  by_cases e:us=[]
  · rw [if_pos e,e];rfl
  rw [if_neg e];omega
theorem depR_none {l:List Want} (hp:ParW l) {n:ByteArray} (h: ∀us,¬ChainW l n us):depR l n= -1:=depGo_none hp _ _ _ (by omega) h
theorem depR_le {l:List Want} (hp:ParW l) (n:ByteArray):depR l n≤l.length:=by
  by_cases h: ∃us,ChainW l n us
  rotate_left
  · rw [depR_none hp (fun us k=>h ⟨us,k⟩)];omega
  obtain ⟨us,h⟩:=h
  rw [depR_chain hp h]
  have:=chainW_len h
  omega
theorem depR_some {l:List Want} (hp:ParW l) {n:ByteArray} {x:Want} (hx:lookW l n=some x) (h:0<depR l n):depR l n=depR l x.f1+1∧0≤depR l x.f1∧(x.f1≠⟨#[]⟩→0<depR l x.f1):=by
  by_cases c: ∃us,ChainW l n us
  rotate_left
  · rw [depR_none hp (fun us k => c ⟨us, k⟩)] at h
    omega
  obtain ⟨us,c⟩:=c
  rcases chainW_inv c with ⟨h1,rfl⟩|⟨y,vs,h1,rfl,k⟩
  · rw [hx] at h1;cases h1
  rw [hx] at h1
  obtain rfl:=Option.some.inj h1
  rw [depR_chain hp c,depR_chain hp k,List.length_cons]
  refine ⟨by omega,by omega,fun e=> ?_⟩
  rcases chainW_inv k with ⟨h2,rfl⟩|⟨z,ws,h2,rfl,k2⟩
  · obtain ⟨z, hz⟩ := hp.2 x (lookW_mem hx).1 e
    rw [h2] at hz;cases hz
  rw [List.length_cons];omega
theorem depR_root {l:List Want} (hp:ParW l):depR l ⟨#[]⟩=0:=depR_chain hp (chainW_nil hp.root)
theorem depR_absent {l:List Want} (hp:ParW l) {n:ByteArray} (h:lookW l n=none):depR l n=0:=depR_chain hp (chainW_nil h)
def mayW (w:Want):Bool:=decide ((w.f0≠⟨#[]⟩∧w.f0.size≤24)∧MayP w.f2)
def ph1:List Want→List Want→Int
 |_,[]=>0
 |pre,w::ws=>if mayW w=true then (if (lookW pre w.f0).isSome=true then 3 else ph1 (pre++ [w]) ws) else 1
def sumGo (n:ByteArray):List Want→Vec→Vec
 |[],v=>v
 |w::ws,v=>sumGo n ws (if w.f1=n then vadd v w.f2 else v)
def sumW (l:List Want) (n:ByteArray):Vec:=sumGo n l ⟨0,0,0⟩
def noPar (l:List Want) (w:Want):Bool:=decide (w.f1≠⟨#[]⟩∧lookW l w.f1=none)
def checkR (l:List Want):Int:=
 if l.length>120 then 4 else if ph1 [] l≠0 then ph1 [] l else if l.any (noPar l)=true then 2 else if l.any (fun w=>decide (depR l w.f0<1))=true then 10 else if l.any (fun w=> !decide (LeP (sumW l w.f0) w.f2))=true then 11 else 0
theorem ph1_ok: ∀{ws pre:List Want},ph1 pre ws=0→ ∀w∈ws,mayW w=true
  |[],_,_,w,hw=>by cases hw
  | x :: ws, pre, h, w, hw => by
    unfold ph1 at h
    by_cases c:mayW x=true
    rotate_left
    · rw [if_neg c] at h;omega
    rw [if_pos c] at h
    by_cases e:(lookW pre x.f0).isSome=true
    · rw [if_pos e] at h;omega
    rw [if_neg e] at h
    rcases List.mem_cons.1 hw with rfl|hw
    · exact c
    exact ph1_ok h w hw
theorem ph1_nodup: ∀{ws pre:List Want},ph1 pre ws=0→(pre.map (·.f0)).Nodup→((pre++ws).map (·.f0)).Nodup
  |[],pre,_,hn=>by rwa [List.append_nil]
  | x :: ws, pre, h, hn => by
    unfold ph1 at h
    by_cases c:mayW x=true
    rotate_left
    · rw [if_neg c] at h;omega
    rw [if_pos c] at h
    by_cases e:(lookW pre x.f0).isSome=true
    · rw [if_pos e] at h;omega
    rw [if_neg e] at h
    have q:=ph1_nodup h (by
      rw [List.map_append,List.map_cons,List.map_nil,List.nodup_append]
      refine ⟨hn,by simp, ?_⟩
      intro a ha b hb
      obtain ⟨y,hy,rfl⟩:=List.mem_map.1 ha
      rw [List.mem_singleton] at hb
      subst hb
      have hz:lookW pre x.f0=none:=by simpa using e
      exact fun q=>lookW_none.1 hz y hy q)
    rwa [List.append_assoc] at q
theorem ph1_01: ∀(ws pre:List Want),ph1 pre ws=0∨ph1 pre ws=1∨ph1 pre ws=3
  |[],_=> .inl rfl
  | x :: ws, pre => by
    unfold ph1
    split
    rotate_left
    · exact .inr (.inl rfl)
    split
    · exact .inr (.inr rfl)
    exact ph1_01 ws _
theorem mayW_iff {w:Want}:mayW w=true↔(w.f0≠⟨#[]⟩∧w.f0.size≤24)∧MayP w.f2:=by unfold mayW;rw [decide_eq_true_iff]
structure TreeW (l:List Want):Prop where
 len:l.length≤120
 may: ∀w∈l,mayW w=true
 nodup:(l.map (·.f0)).Nodup
 par:ParW l
 dep: ∀w∈l,1≤depR l w.f0
theorem any_false {α:Type} {p:α→Bool} {l:List α}: ¬l.any p=true↔ ∀x∈l,p x=false:=by simp
theorem checkR_tree {l:List Want} (h:checkR l=0∨checkR l=11):TreeW l:=by
  unfold checkR at h
  by_cases c0:l.length>120
  · rw [if_pos c0] at h;omega
  rw [if_neg c0] at h
  by_cases c1:ph1 [] l≠0
  · rw [if_pos c1] at h
    rcases ph1_01 l [] with q|q|q<;>omega
  rw [if_neg c1] at h
  have c1':ph1 [] l=0:=by omega
  by_cases c2:l.any (noPar l)=true
  · rw [if_pos c2] at h;omega
  rw [if_neg c2] at h
  by_cases c3:l.any (fun w=>decide (depR l w.f0<1))=true
  · rw [if_pos c3] at h;omega
  have hm:=ph1_ok c1'
  refine ⟨by omega,hm, ?_,⟨fun w hw=>(mayW_iff.1 (hm w hw)).1.1,fun w hw e=> ?_⟩,fun w hw=> ?_⟩
  · have := ph1_nodup c1' (by simp)
    rwa [List.nil_append] at this
  rotate_left
  · have q := any_false.1 c3 w hw
    rw [decide_eq_false_iff_not] at q
    omega
  have q:=any_false.1 c2 w hw
  unfold noPar at q
  rw [decide_eq_false_iff_not] at q
  cases hx:lookW l w.f1 with
  |none=>exact absurd ⟨e,hx⟩ q
  |some x=>exact ⟨x,rfl⟩
theorem checkR_of {l:List Want} (h:TreeW l):checkR l=if l.any (fun w=> !decide (LeP (sumW l w.f0) w.f2))=true then 11 else 0:=by
  have e1:ph1 [] l=0:=by
    have: ∀ws pre:List Want,(∀w∈ws,mayW w=true)→((pre++ws).map (·.f0)).Nodup→ph1 pre ws=0:=by
      intro ws
      induction ws with
      |nil=>intro pre _ _;rfl
      | cons x ws ih =>
        intro pre hm hn
        unfold ph1
        rw [if_pos (hm x (by simp)),if_neg,ih (pre++ [x]) (fun w hw=>hm w (by simp [hw])) (by rwa [List.append_assoc])]
        have hz:lookW pre x.f0=none:=lookW_none.2 fun y hy q=>by
          rw [List.map_append,List.map_cons,List.nodup_append] at hn
          exact hn.2.2 y.f0 (List.mem_map_of_mem hy) x.f0 (by simp) q
        rw [hz];simp
    exact this l [] h.may (by simpa using h.nodup)
  unfold checkR
  rw [if_neg (by have:=h.len;omega),if_neg (by omega),if_neg,if_neg]
  · rw [any_false]
    intro w hw
    rw [decide_eq_false_iff_not]
    have:=h.dep w hw
    omega
  rw [any_false]
  intro w hw
  unfold noPar
  rw [decide_eq_false_iff_not]
  rintro ⟨a,b⟩
  obtain ⟨x,hx⟩:=h.par.2 w hw a
  rw [b] at hx;cases hx
theorem nx64 {i n:Nat} (h:i<n) (hn:n<1000000):wrap64 ((i:Int)+1)=((i+1:Nat):Int):=by rw [w64 (by omega) (by omega)];rfl
def UptoV (n:Nat) (v:Vec):Prop:= ∀c:Comp,0≤c.of v∧c.of v≤1099511627776*(n:Int)
theorem uptoV_add {n:Nat} {v u:Vec} (h:UptoV n v) (hu:MayP u):UptoV (n+1) (vadd v u):=fun c=>by
 have:=h c;have:=hu c
 rw [of_vadd]
 omega
theorem uptoV_succ {n:Nat} {v:Vec} (h:UptoV n v):UptoV (n+1) v:=fun c=>by have:=h c;omega
theorem add_upto {n:Nat} (hn:n≤1000) {v u:Vec} (h:UptoV n v) (hu:MayP u):r10_Add.f v.f0 v.f1 v.f2 u.f0 u.f1 u.f2=some ((vadd v u).f0,(vadd v u).f1,(vadd v u).f2):=by
 have a:=h .cpu;have b:=h .mem;have d:=h .pods
 have a':=hu .cpu;have b':=hu .mem;have d':=hu .pods
 simp only [Comp.of] at a b d a' b' d'
 unfold r10_Add.f
 rw [w64 (by omega) (by omega),w64 (by omega) (by omega),w64 (by omega) (by omega)]
 rfl
def badSum (l:List Want) (w:Want):Bool:= !decide (LeP (sumW l w.f0) w.f2)
def badDep (l:List Want) (w:Want):Bool:=decide (depR l w.f0<1)
theorem chk_l4 {l:List Want} (hl:l.length≤120) (hm: ∀w∈l,MayP w.f2) {i:Nat} (hi:i<l.length) {r:Int} (hr:LeP (sumW l l[i].f0) l[i].f2→Ev (fun k=>r10_Check.l3 k l ((i+1:Nat):Int)) r) (hb: ¬LeP (sumW l l[i].f0) l[i].f2→r=11):
    ∀(d j:Nat) (v:Vec),l.length - j=d→j≤l.length→UptoV j v→sumGo l[i].f0 (l.drop j) v=sumW l l[i].f0→Ev (fun k=>r10_Check.l4 k l (i:Int) (j:Int) v.f0 v.f1 v.f2) r
  | 0, j, v, hd, hj, hv, hs => by
    rw [List.drop_of_length_le (by omega)] at hs
    unfold sumGo at hs
    refine Ev.step (fun k=>r10_Check.l4.eq_2 (k:=k) ..) ?_
    rw [rd_wantN l hi,nx64 hi (by omega)]
    refine Ev.congr (fun k=>by rw [if_neg (by omega),if_pos (by omega),if_pos (by omega),r10_Le_eq]) ?_
    simp only [Option.bind_some]
    by_cases c:LeP (sumW l l[i].f0) l[i].f2
    · exact Ev.congr (fun k=>if_pos (by rw [decide_eq_true_iff,hs];exact c)) (hr c)
    rw [hb c]
    exact Ev.congr (fun k=>if_neg (by rw [decide_eq_true_iff,hs];exact c)) (Ev.now _)
  | d + 1, j, v, hd, hj, hv, hs => by
    have hlt:j<l.length:=by omega
    rw [List.drop_eq_getElem_cons hlt] at hs
    unfold sumGo at hs
    refine Ev.step (fun k=>r10_Check.l4.eq_2 (k:=k) ..) ?_
    rw [rd_wantN l hi,rd_wantN l hlt,nx64 hlt (by omega)]
    refine Ev.congr (fun k=>by rw [if_pos (by omega),if_pos (by omega),if_pos (by omega),if_pos (by omega)]) ?_
    by_cases c:l[j].f1=l[i].f0
    · rw [if_pos c] at hs
      refine Ev.congr (fun k=>by rw [if_pos (nm_inj.2 c),add_upto (by omega) hv (hm _ (List.getElem_mem hlt))]) ?_
      simp only [Option.bind_some]
      exact chk_l4 hl hm hi hr hb d (j+1) _ (by omega) (by omega) (uptoV_add hv (hm _ (List.getElem_mem hlt))) hs
    rw [if_neg c] at hs
    refine Ev.congr (fun k=>if_neg (fun q=>c (nm_inj.1 q))) ?_
    exact chk_l4 hl hm hi hr hb d (j+1) v (by omega) (by omega) (uptoV_succ hv) hs
theorem chk_l3 {l:List Want} (hl:l.length≤120) (hm: ∀w∈l,MayP w.f2): ∀(d i:Nat),l.length - i=d→i≤l.length→Ev (fun k=>r10_Check.l3 k l (i:Int)) (if (l.drop i).any (badSum l)=true then 11 else 0)
  | 0, i, hd, hi => by
    rw [List.drop_of_length_le (by omega)]
    exact Ev.step (fun k=>r10_Check.l3.eq_2 (k:=k) ..) (Ev.congr (fun k=>if_neg (by omega)) (Ev.now _))
  | d + 1, i, hd, hi => by
    have hlt:i<l.length:=by omega
    have next:=chk_l3 hl hm d (i+1) (by omega) (by omega)
    rw [List.drop_eq_getElem_cons hlt,List.any_cons]
    refine Ev.step (fun k=>r10_Check.l3.eq_2 (k:=k) ..) (Ev.congr (fun k=>if_pos (by omega)) ?_)
    refine chk_l4 hl hm hlt (fun c=> ?_) (fun c=> ?_) l.length 0 ⟨0,0,0⟩ (by omega) (by omega) (fun c=>by cases c<;>exact ⟨Int.le_refl _,by simp [Comp.of]⟩) (by rw [List.drop_zero];rfl)
    · rw [show badSum l l[i] = false from by unfold badSum; rw [decide_eq_true c]; rfl, Bool.false_or]
      exact next
    rw [show badSum l l[i]=true from by unfold badSum;rw [decide_eq_false c];rfl,Bool.true_or,if_pos rfl]
theorem chk_l2 {l:List Want} (hl:l.length≤120) {r:Int} (hr:Ev (fun k=>r10_Check.l3 k l 0) r): ∀(d i:Nat),l.length - i=d→i≤l.length→Ev (fun k=>r10_Check.l2 k l (i:Int)) (if (l.drop i).any (badDep l)=true then 10 else r)
  | 0, i, hd, hi => by
    rw [List.drop_of_length_le (by omega)]
    exact Ev.step (fun k=>r10_Check.l2.eq_2 (k:=k) ..) (Ev.congr (fun k=>if_neg (by omega)) hr)
  | d + 1, i, hd, hi => by
    have hlt:i<l.length:=by omega
    have next:=chk_l2 hl hr d (i+1) (by omega) (by omega)
    rw [List.drop_eq_getElem_cons hlt,List.any_cons]
    refine Ev.step (fun k=>r10_Check.l2.eq_2 (k:=k) ..) ?_
    rw [rd_wantN l hlt,nx64 hlt (by omega)]
    refine Ev.congr (fun k=>by rw [if_pos (by omega),if_pos (by omega)]) (Ev.bind (r10_Depth_ev l l[i].f0 (by omega)) ?_)
    by_cases c:depR l l[i].f0<1
    · rw [show badDep l l[i] = true from decide_eq_true c, Bool.true_or, if_pos rfl]
      exact Ev.congr (fun k=>if_pos c) (Ev.now _)
    rw [show badDep l l[i]=false from decide_eq_false c,Bool.false_or]
    exact Ev.congr (fun k=>if_neg c) next
theorem chk_l1 {l:List Want} (hl:l.length≤120) {r:Int} (hr:Ev (fun k=>r10_Check.l2 k l 0) r): ∀(d i:Nat),l.length - i=d→i≤l.length→Ev (fun k=>r10_Check.l1 k l (i:Int)) (if (l.drop i).any (noPar l)=true then 2 else r)
  | 0, i, hd, hi => by
    rw [List.drop_of_length_le (by omega)]
    exact Ev.step (fun k=>r10_Check.l1.eq_2 (k:=k) ..) (Ev.congr (fun k=>if_neg (by omega)) hr)
  | d + 1, i, hd, hi => by
    have hlt:i<l.length:=by omega
    have next:=chk_l1 hl hr d (i+1) (by omega) (by omega)
    rw [List.drop_eq_getElem_cons hlt,List.any_cons]
    refine Ev.step (fun k=>r10_Check.l1.eq_2 (k:=k) ..) ?_
    rw [rd_wantN l hlt,nx64 hlt (by omega)]
    refine Ev.congr (fun k=>by rw [if_pos (by omega),if_pos (by omega)]) ?_
    by_cases e:l[i].f1=⟨#[]⟩
    · rw [show noPar l l[i] = false from decide_eq_false (fun q => q.1 e), Bool.false_or]
      exact Ev.congr (fun k=>if_pos (nm_empty.2 e)) next
    refine Ev.congr (fun k=>if_neg (fun q=>e (nm_empty.1 q))) (Ev.bind (r10_wanted_ev l l[i].f1 (by omega)) ?_)
    by_cases c:lookW l l[i].f1=none
    · rw [show noPar l l[i] = true from decide_eq_true ⟨e, c⟩, Bool.true_or, if_pos rfl]
      exact Ev.congr (fun k=>if_pos (wfnd_neg.2 c)) (Ev.now _)
    rw [show noPar l l[i]=false from decide_eq_false (fun q=>c q.2),Bool.false_or]
    exact Ev.congr (fun k=>if_neg (fun q=>c (wfnd_neg.1 q))) next
theorem take_next {l:List Want} {i:Nat} (h:i<l.length):l.take (i+1)=l.take i++ [l[i]]:=by
 rw [List.take_add_one,List.getElem?_eq_getElem h];rfl
theorem chk_l0 {l:List Want} (hl:l.length≤120) {r:Int} (hr:ph1 [] l=0→Ev (fun k=>r10_Check.l1 k l 0) r): ∀(d i:Nat),l.length - i=d→i≤l.length→ph1 [] l=ph1 (l.take i) (l.drop i)→Ev (fun k=>r10_Check.l0 k l (i:Int)) (if ph1 [] l≠0 then ph1 [] l else r)
  | 0, i, hd, hi, he => by
    rw [List.drop_of_length_le (by omega)] at he
    unfold ph1 at he
    have he':ph1 [] l=0:=by cases l<;>exact he
    rw [if_neg (by omega)]
    exact Ev.step (fun k=>r10_Check.l0.eq_2 (k:=k) ..) (Ev.congr (fun k=>if_neg (by omega)) (hr he'))
  | d + 1, i, hd, hi, he => by
    have hlt:i<l.length:=by omega
    have next:=chk_l0 hl hr d (i+1) (by omega) (by omega)
    rw [List.drop_eq_getElem_cons hlt] at he
    have he2:ph1 (l.take i) (l[i]::l.drop (i+1))=if mayW l[i]=true then (if (lookW (l.take i) l[i].f0).isSome=true then 3 else ph1 (l.take i++ [l[i]]) (l.drop (i+1))) else 1:=rfl
    rw [he2,←take_next hlt] at he
    have j1: ∀b,b= !mayW l[i]→Ev (fun k=>r10_Check.j1 k l (i:Int) b) (if ph1 [] l≠0 then ph1 [] l else r):=by
      intro b hb
      refine Ev.step (fun k=>r10_Check.j1.eq_2 (k:=k) ..) ?_
      rw [rd_wantN l hlt,nx64 hlt (by omega),Int.toNat_natCast]
      by_cases c:mayW l[i]=true
      rotate_left
      · rw [if_neg c] at he
        rw [Bool.eq_false_iff.2 c] at hb
        subst hb
        rw [he,if_pos (by decide)]
        exact Ev.congr (fun k=>if_pos rfl) (Ev.now _)
      rw [if_pos c] at he
      rw [c] at hb
      subst hb
      refine Ev.congr (fun k=>by rw [if_neg (by simp),if_pos (by omega),if_pos (by omega),if_pos (by omega)]) (Ev.bind (r10_wanted_ev (l.take i) l[i].f0 (by rw [List.length_take];omega)) ?_)
      by_cases e:(lookW (l.take i) l[i].f0).isSome=true
      · rw [if_pos e] at he
        rw [he,if_pos (by decide)]
        exact Ev.congr (fun k=>if_pos (wfnd_ge.2 (Option.isSome_iff_exists.1 e))) (Ev.now _)
      rw [if_neg e] at he
      exact Ev.congr (fun k=>if_neg (fun q=>e (Option.isSome_iff_exists.2 (wfnd_ge.1 q)))) (next he)
    refine Ev.step (fun k=>r10_Check.l0.eq_2 (k:=k) ..) ?_
    rw [rd_wantN l hlt]
    refine Ev.congr (fun k=>by rw [if_pos (by omega),if_pos (by omega),r10_MayName_eq,r10_MayVec_eq]) ?_
    simp only [Option.bind_some]
    by_cases e:l[i].f0≠⟨#[]⟩∧l[i].f0.size≤24
    rotate_left
    · refine Ev.congr (fun k => if_neg (by rw [decide_eq_true_iff]; exact e)) (j1 _ ?_)
      unfold mayW
      rw [decide_eq_false (fun h=>e h.1)];rfl
    refine Ev.congr (fun k=>if_pos (decide_eq_true e)) (j1 _ ?_)
    unfold mayW
    by_cases q:MayP l[i].f2
    · rw [decide_eq_true (show MayP ⟨l[i].f2.f0,l[i].f2.f1,l[i].f2.f2⟩ from q),decide_eq_true ⟨e,q⟩]
    rw [decide_eq_false (show¬MayP ⟨l[i].f2.f0,l[i].f2.f1,l[i].f2.f2⟩ from q),decide_eq_false (fun h=>q h.2)]
theorem r10_Check_ev (l:List Want):Ev (fun k=>r10_Check.f k l) (checkR l):=by
  unfold r10_Check.f checkR
  by_cases c:l.length>120
  · rw [if_pos c]
    exact Ev.congr (fun k=>if_pos (by omega)) (Ev.now _)
  rw [if_neg c]
  refine Ev.congr (fun k=>if_neg (by omega)) ?_
  refine chk_l0 (by omega) (fun h0=> ?_) l.length 0 (by omega) (by omega) (by rw [List.take_zero,List.drop_zero])
  have hm: ∀w∈l,MayP w.f2:=fun w hw=>(mayW_iff.1 (ph1_ok h0 w hw)).2
  have h3:=chk_l3 (by omega) hm l.length 0 (by omega) (by omega)
  have h2:=chk_l2 (by omega) h3 l.length 0 (by omega) (by omega)
  have h1:=chk_l1 (by omega) h2 l.length 0 (by omega) (by omega)
  rw [List.drop_zero] at h1 h2 h3
  exact h1
end Go.Proofs.Ytahidkjncljkaaa.Print

namespace Go.Proofs.Ytahidkjncljkaaa.Print
open Go.RowKit Go.Proofs.YtahidkjncljkaaaW.PrintWords Go.Proofs.YtahidkjncljkaaaW.PrintLast Go.Proofs.YtahidkjncljkaaaW.PrintMore
attribute [local go_sem] max2_int min2_int max_two min_two max_three min_three max_four min_four

mutual
def r10_Top.l0:Nat→List (S39)→List (S39)→Int→Option ((List (S39)))
 |0,_,_,_=>none
 |k+1,x0,x3,x4=>if x4<(x0.length:Int) then (if 0≤x4 then ((r10_Depth.f k x0 ((rd_T39 x0 x4).f0)).bind fun t2=>(r10_Top.l1 k x0 x3 x4 t2 0)) else (none)) else (some x3)
def r10_Top.l1:Nat→List (S39)→List (S39)→Int→Int→Int→Option ((List (S39)))
 |0,_,_,_,_,_=>none
 |k+1,x0,x3,x4,x5,x6=>if x6<(x3.length:Int) then (if 0≤x6 then ((r10_Depth.f k x0 ((rd_T39 x3 x6).f0)).bind fun t4=>(if t4<x5 then (r10_Top.l1 k x0 x3 x4 x5 (wrap64 (x6+1))) else ((r10_Depth.f k x0 ((rd_T39 x3 x6).f0)).bind fun t6=>(if t6=x5 then (if 0≤x4 then (if x4<(x0.length:Int) then (if (Op.bytesLess (((rd_T39 x3 x6).f0).toList) (((rd_T39 x0 x4).f0).toList))=true then (r10_Top.l1 k x0 x3 x4 x5 (wrap64 (x6+1))) else ((some (([]:List (S39)):List (S39))).bind fun y9=>(if x6≤(x3.length:Int) then ((some (x3.take (x6:Int).toNat:List (S39))).bind fun y12=>(if y9.length+y12.length<2513169434916 then ((some (y9++y12:List (S39))).bind fun y16=>(if y16.length<2513169434916 then ((some (y16++ [(⟨(rd_T39 x0 x4).f0,(rd_T39 x0 x4).f1,(⟨(rd_T39 x0 x4).f2.f0,(rd_T39 x0 x4).f2.f1,(rd_T39 x0 x4).f2.f2⟩:S37)⟩:S39)]:List (S39))).bind fun y20=>((some (x3.drop (x6:Int).toNat:List (S39))).bind fun y23=>(if y20.length+y23.length<2513169434916 then (r10_Top.l0 k x0 (y20++y23) (wrap64 (x4+1))) else (none)))) else (none))) else (none))) else (none)))) else (none)) else (none)) else ((some (([]:List (S39)):List (S39))).bind fun y30=>(if x6≤(x3.length:Int) then ((some (x3.take (x6:Int).toNat:List (S39))).bind fun y33=>(if y30.length+y33.length<2513169434916 then ((some (y30++y33:List (S39))).bind fun y37=>(if 0≤x4 then (if x4<(x0.length:Int) then (if y37.length<2513169434916 then ((some (y37++ [(⟨(rd_T39 x0 x4).f0,(rd_T39 x0 x4).f1,(⟨(rd_T39 x0 x4).f2.f0,(rd_T39 x0 x4).f2.f1,(rd_T39 x0 x4).f2.f2⟩:S37)⟩:S39)]:List (S39))).bind fun y41=>((some (x3.drop (x6:Int).toNat:List (S39))).bind fun y44=>(if y41.length+y44.length<2513169434916 then (r10_Top.l0 k x0 (y41++y44) (wrap64 (x4+1))) else (none)))) else (none)) else (none)) else (none))) else (none))) else (none))))))) else (none)) else ((some (([]:List (S39)):List (S39))).bind fun y51=>(if 0≤x6 then (if x6≤(x3.length:Int) then ((some (x3.take (x6:Int).toNat:List (S39))).bind fun y54=>(if y51.length+y54.length<2513169434916 then ((some (y51++y54:List (S39))).bind fun y58=>(if 0≤x4 then (if x4<(x0.length:Int) then (if y58.length<2513169434916 then ((some (y58++ [(⟨(rd_T39 x0 x4).f0,(rd_T39 x0 x4).f1,(⟨(rd_T39 x0 x4).f2.f0,(rd_T39 x0 x4).f2.f1,(rd_T39 x0 x4).f2.f2⟩:S37)⟩:S39)]:List (S39))).bind fun y62=>((some (x3.drop (x6:Int).toNat:List (S39))).bind fun y65=>(if y62.length+y65.length<2513169434916 then (r10_Top.l0 k x0 (y62++y65) (wrap64 (x4+1))) else (none)))) else (none)) else (none)) else (none))) else (none))) else (none)) else (none)))
end
def r10_Top.f (k:Nat) (l0:List (S39)):Option ((List (S39))):=r10_Top.l0 k l0 ([]:List (S39)) 0
theorem r10_Top.mono_l: ∀k,(∀y0 y1 y2,LeO (r10_Top.l0 k y0 y1 y2) (r10_Top.l0 (k+1) y0 y1 y2))∧(∀y0 y1 y2 y3 y4,LeO (r10_Top.l1 k y0 y1 y2 y3 y4) (r10_Top.l1 (k+1) y0 y1 y2 y3 y4))
 |0=>⟨fun _ _ _ r h=>by simp [r10_Top.l0] at h,fun _ _ _ _ _ r h=>by simp [r10_Top.l1] at h⟩
 |k+1=>by
  obtain ⟨ih0,ih1⟩:=r10_Top.mono_l k
  refine ⟨?_, ?_⟩
  ·intro y0 y1 y2
   unfold r10_Top.l0
   repeat' first
   |(with_reducible exact ih0 _ _ _)
   |(with_reducible exact ih1 _ _ _ _ _)
   |(with_reducible exact r10_Depth.mono _ _ _)
   |(with_reducible exact LeO.refl _)
   |(with_reducible exact LeO.none _)
   |(with_reducible refine LeO.ite ?_ ?_)
   |(with_reducible refine LeO.bind ?_ (fun _=> ?_))
   |exact ih0 _ _ _
   |exact ih1 _ _ _ _ _
   |exact r10_Depth.mono _ _ _
   |exact LeO.none _
   |refine LeO.ite ?_ ?_
   |refine LeO.bind ?_ (fun _=> ?_)
  intro y0 y1 y2 y3 y4
  unfold r10_Top.l1
  repeat' first
  |(with_reducible exact ih0 _ _ _)
  |(with_reducible exact ih1 _ _ _ _ _)
  |(with_reducible exact r10_Depth.mono _ _ _)
  |(with_reducible exact LeO.refl _)
  |(with_reducible exact LeO.none _)
  |(with_reducible refine LeO.ite ?_ ?_)
  |(with_reducible refine LeO.bind ?_ (fun _=> ?_))
  |exact ih0 _ _ _
  |exact ih1 _ _ _ _ _
  |exact r10_Depth.mono _ _ _
  |exact LeO.none _
  |refine LeO.ite ?_ ?_
  |refine LeO.bind ?_ (fun _=> ?_)
theorem r10_Top.mono: ∀a0 k,LeO (r10_Top.f k a0) (r10_Top.f (k+1) a0):=by
 intro a0 k
 obtain ⟨ih0,ih1⟩:=r10_Top.mono_l k
 unfold r10_Top.f
 repeat' first
  |(with_reducible exact ih0 _ _ _)
  |(with_reducible exact ih1 _ _ _ _ _)
  |(with_reducible exact r10_Depth.mono _ _ _)
  |(with_reducible exact LeO.refl _)
  |(with_reducible exact LeO.none _)
  |(with_reducible refine LeO.ite ?_ ?_)
  |(with_reducible refine LeO.bind ?_ (fun _=> ?_))
  |exact ih0 _ _ _
  |exact ih1 _ _ _ _ _
  |exact r10_Depth.mono _ _ _
  |exact LeO.none _
  |refine LeO.ite ?_ ?_
  |refine LeO.bind ?_ (fun _=> ?_)
def r10_Top.T7:Bool×List (List Nat×List Nat):=(true,[([],[]),([],[]),([1],[1]),([0,2],[0,2]),([3],[3]),([4],[4]),([4],[4]),([4],[4]),([6,7,4],[4,6,7]),([8,4],[4,8]),([9,4],[4,9]),([5,10,4,4],[4,5,10]),([4],[4]),([11,12,4],[4,11,12]),([13,11,4],[4,13]),([14],[14]),([14],[14]),([14],[14]),([16,17,14],[14,16,17]),([18,14],[14,18]),([19,14],[14,19]),([15,20,14,14],[14,15,20]),([14],[14]),([21,22,14],[14,21,22]),([23,21,14],[14,23]),([24],[24]),([24],[24]),([25,26,24],[24,25,26]),([27,24],[24,27]),([28,24],[24,28]),([24],[24]),([24],[24]),([30,31,24],[24,30,31]),([32,24],[24,32]),([33,24],[24,33]),([29,34,24],[24,29,34]),([24,35,14],[14,24,35]),([14,36,4],[4,14,36]),([4,37],[4,37])])
def r10_Top.B7:List Nat:=[0,0,2,7,15,31,31,31,223,479,991,2047,31,8191,16383,32767,32767,32767,229375,491519,1015807,2097151,32767,8388607,16777215,33554431,33554431,134217727,268435455,536870911,33554431,33554431,3254779903,7549747199,16139681791,34359738367,68719476735,137438953471,274877906943]
theorem r10_Top.tab7:rtab .any (opsOf Try.f31 7)=r10_Top.T7:=by kernel_rfl
theorem r10_Top.bits7:waitsOk r10_Top.T7.2 r10_Top.B7=true:=by kernel_rfl
set_option maxHeartbeats 8000000 in
set_option maxRecDepth 100000 in
theorem r10_Top.calls (k:Nat) (A0:Option Addr) (c0:Nat) (l0:List (S39)) (r:List (S39)) (w:World) (hr0:Kd.C k39 w A0 l0.length l0) (hc0:l0.length≤c0) (h:r10_Top.f k l0=some r):
  Calls Try.prog 31 #[.slice A0 l0.length c0] w fun e w'=> ∃v0_:Value,e= .returned (v0_)∧Kd.R k39 39 w' w.heap.size (fun _=>True) v0_ r∧Below w.heap.size w w':=by
 have hu39:=Try.underlying39
 have HR0:=Aside0.mk hr0
 have HC0:=Aside0.mk hc0
 clear hr0 hc0
 have HB:=am_ (Below.refl w.heap.size w)
 have H:(r10_Top.l0 k l0 ([]:List (S39)) 0)=some r:=h
 clear h
 have H':=Aside0.mk H
 clear H
 go_enter Try.func31,Try.ntmps31
 go_wp2
 go_loopg [3,4] k (fun kq v3 v4 w'=> ∃(x3_1:List (S39)) (x4_1:Int),v4= .int .i64 x4_1∧Aside0 (r10_Top.l0 kq l0 x3_1 x4_1=some r)∧Aside0 (kq≤k)∧Aside0 (Kd.R k39 39 w' w.heap.size (fun _=>True) v3 x3_1)∧Aside0 (Below w.heap.size w w'))
 case atStart=>exact ⟨(([]:List (S39))),(0),(by first|rfl|(simp;done)|(simp [*];done)),H',⟨Nat.le_refl _⟩,⟨by first|exact Kd.R_nil _ _ _ _ _|exact Kd.N_nil _ _ _ _ _|exact Kd.V_nil _ _ _ _ _|exact Kd.Q_nil _ _ _ _ _|exact Kd.S_nil _ _ _ _ _⟩,⟨zl0_ HB⟩⟩
 case round=>
  clear H'
  obtain ⟨x3_1,x4_1,rfl,HA,HK1,HO_3,HB⟩:=hrel
  cases gk with
  |zero=>exact absurd HA.out (by simp [r10_Top.l0])
  |succ k1=>
   have H:=HA.out
   clear HA
   simp only [r10_Top.l0] at H
   by_cases c2:x4_1<(l0.length:Int)
   rotate_left
   ·rw [if_neg c2] at H
    have c2b0:decide (x4_1<(l0.length:Int))=false:=decide_eq_false c2
    clear c2
    obtain rfl:=Option.some.inj H
    go_wp2
    go_ret
    exact ⟨_,by first|rfl|(simp [errW_none,errW_some]<;>rfl)|(simp [*,errW_none,errW_some]<;>rfl),by (with_reducible repeat (first|apply Kd.R_alloc|apply Kd.R_drewN|apply Kd.R_drew));exact HO_3.out,zl0_ HB⟩

   rw [if_pos c2] at H
   have c2b0:decide (x4_1<(l0.length:Int))=true:=decide_eq_true c2
   clear c2
   by_cases c3:0≤x4_1
   rotate_left
   ·rw [if_neg c3] at H
    exact absurd H (by simp)
   rw [if_pos c3] at H
   have c3b0:decide (0≤x4_1)=true:=decide_eq_true c3
   clear c3
   replace H:=Option.bind_eq_some_iff.mp H
   obtain ⟨t2,A40,H⟩:=H
   try dsimp only at H
   have A4:=Aside0.mk A40
   clear A40
   have H':=Aside0.mk H
   clear H
   have p1:0≤(x4_1:Int):=of_decide_eq_true zq_
   have q1:x4_1<(l0.length:Int):=of_decide_eq_true zq_
   obtain ⟨ad1,e1,hx1_0,hx1_1,hx1_2,hx1_3,hx1_4⟩:=at_T39 HR0.out x4_1 p1 q1
   cases e1
   replace hx1_0:=zx_ HB hx1_0
   replace hx1_1:=zx_ HB hx1_1
   replace hx1_2:=zx_ HB hx1_2
   replace hx1_3:=zx_ HB hx1_3
   replace hx1_4:=zx_ HB hx1_4
   replace p1:=eq_true p1
   replace q1:=eq_true q1
   go_wp2_with (first|((with_reducible refine gate_callee (f:=28) rfl ?_);refine gl_ (some 20) Try.func28 #[.slice (some ad1) l0.length c0, .string ((rd_T39 l0 x4_1).f0)] ?_;(with_reducible refine (r10_Depth.calls k1 _ _ l0 ((rd_T39 l0 x4_1).f0) t2 _ ?side1 ?side2 A4.out).mono ?_);(case side1=>exact zc_ (Kd.C_below HR0.out HB.out));(case side2=>exact HC0.out);rintro e w' ⟨rfl,⟨nd,rfl⟩⟩;refine ⟨_,rfl, ?_⟩))
   go_loopg [6] k1 (fun kq v6 w'=> ∃(x6_2:Int),v6= .int .i64 x6_2∧Aside0 (r10_Top.l1 kq l0 x3_1 x4_1 t2 x6_2=some r)∧Aside0 (kq≤k1)∧Aside0 (Kd.R k39 39 w' w.heap.size (fun _=>True) u3 x3_1)∧Aside0 (Below w.heap.size w w'))
   case atStart=>exact ⟨(0),(by first|rfl|(simp;done)|(simp [*];done)),H',⟨Nat.le_refl _⟩,⟨by (with_reducible repeat (first|apply Kd.R_alloc|apply Kd.R_drewN|apply Kd.R_drew));exact HO_3.out⟩,⟨zl0_ HB⟩⟩
   case round=>
    clear H'
    try clear p1
    try clear q1
    try clear hx1
    try clear c2
    try clear c2b0
    try clear p2
    try clear c3
    try clear c3b0
    try clear hx1_0
    try clear hx1_1
    try clear hx1_2
    try clear hx1_3
    try clear hx1_4
    try clear p1
    try clear q1
    obtain ⟨x6_2,rfl,HA,HK2,HO_3,HB⟩:=hrel
    cases gk with
    |zero=>exact absurd HA.out (by simp [r10_Top.l1])
    |succ k2=>
     have H:=HA.out
     clear HA
     simp only [r10_Top.l1] at H
     by_cases c5:x6_2<(x3_1.length:Int)
     rotate_left
     ·rw [if_neg c5] at H
      have c5b0:decide (x6_2<(x3_1.length:Int))=false:=decide_eq_false c5
      clear c5
      obtain ⟨y51,hy51⟩: ∃y_:List (S39),y_=(([]:List (S39))):=⟨_,rfl⟩
      replace H:(if 0≤x6_2 then (if x6_2≤(x3_1.length:Int) then ((some (x3_1.take (x6_2:Int).toNat:List (S39))).bind fun y54=>(if y51.length+y54.length<2513169434916 then ((some (y51++y54:List (S39))).bind fun y58=>(if 0≤x4_1 then (if x4_1<(l0.length:Int) then (if y58.length<2513169434916 then ((some (y58++ [(⟨(rd_T39 l0 x4_1).f0,(rd_T39 l0 x4_1).f1,(⟨(rd_T39 l0 x4_1).f2.f0,(rd_T39 l0 x4_1).f2.f1,(rd_T39 l0 x4_1).f2.f2⟩:S37)⟩:S39)]:List (S39))).bind fun y62=>((some (x3_1.drop (x6_2:Int).toNat:List (S39))).bind fun y65=>(if y62.length+y65.length<2513169434916 then (r10_Top.l0 k2 l0 (y62++y65) (wrap64 (x4_1+1))) else (none)))) else (none)) else (none)) else (none))) else (none))) else (none)) else (none))=some r:=by first|(rw [hy51];with_reducible exact H)|(have H2_:=(Option.bind_some _ _).symm.trans H;rw [hy51];with_reducible exact H2_)|(have H2_:=(Option.bind_some _ _).symm.trans H;with_reducible exact H2_)|with_reducible exact H|(rw [hy51];exact H)|exact H
      have Ny51:=Aside0.mk hy51
      clear hy51
      by_cases c52:0≤x6_2
      rotate_left
      ·rw [if_neg c52] at H
       exact absurd H (by simp)
      rw [if_pos c52] at H
      have c52b0:=eq_true c52
      have c52b1:decide (0≤x6_2)=true:=decide_eq_true c52
      clear c52
      by_cases c53:x6_2≤(x3_1.length:Int)
      rotate_left
      ·rw [if_neg c53] at H
       exact absurd H (by simp)
      rw [if_pos c53] at H
      have c53b0:=eq_true c53
      have c53b1:decide (x6_2≤(x3_1.length:Int))=true:=decide_eq_true c53
      clear c53
      obtain ⟨y54,hy54⟩: ∃y_:List (S39),y_=(x3_1.take (x6_2:Int).toNat):=⟨_,rfl⟩
      replace H:(if y51.length+y54.length<2513169434916 then ((some (y51++y54:List (S39))).bind fun y58=>(if 0≤x4_1 then (if x4_1<(l0.length:Int) then (if y58.length<2513169434916 then ((some (y58++ [(⟨(rd_T39 l0 x4_1).f0,(rd_T39 l0 x4_1).f1,(⟨(rd_T39 l0 x4_1).f2.f0,(rd_T39 l0 x4_1).f2.f1,(rd_T39 l0 x4_1).f2.f2⟩:S37)⟩:S39)]:List (S39))).bind fun y62=>((some (x3_1.drop (x6_2:Int).toNat:List (S39))).bind fun y65=>(if y62.length+y65.length<2513169434916 then (r10_Top.l0 k2 l0 (y62++y65) (wrap64 (x4_1+1))) else (none)))) else (none)) else (none)) else (none))) else (none))=some r:=by first|(rw [hy54];with_reducible exact H)|(have H2_:=(Option.bind_some _ _).symm.trans H;rw [hy54];with_reducible exact H2_)|(have H2_:=(Option.bind_some _ _).symm.trans H;with_reducible exact H2_)|with_reducible exact H|(rw [hy54];exact H)|exact H
      have Ny54:=Aside0.mk hy54
      clear hy54
      by_cases c54:y51.length+y54.length<2513169434916
      rotate_left
      ·rw [if_neg c54] at H
       exact absurd H (by simp)
      rw [if_pos c54] at H
      have LMc54:=Aside0.mk c54
      clear c54
      obtain ⟨y58,hy58⟩: ∃y_:List (S39),y_=(y51++y54):=⟨_,rfl⟩
      replace H:(if 0≤x4_1 then (if x4_1<(l0.length:Int) then (if y58.length<2513169434916 then ((some (y58++ [(⟨(rd_T39 l0 x4_1).f0,(rd_T39 l0 x4_1).f1,(⟨(rd_T39 l0 x4_1).f2.f0,(rd_T39 l0 x4_1).f2.f1,(rd_T39 l0 x4_1).f2.f2⟩:S37)⟩:S39)]:List (S39))).bind fun y62=>((some (x3_1.drop (x6_2:Int).toNat:List (S39))).bind fun y65=>(if y62.length+y65.length<2513169434916 then (r10_Top.l0 k2 l0 (y62++y65) (wrap64 (x4_1+1))) else (none)))) else (none)) else (none)) else (none))=some r:=by first|(rw [hy58];with_reducible exact H)|(have H2_:=(Option.bind_some _ _).symm.trans H;rw [hy58];with_reducible exact H2_)|(have H2_:=(Option.bind_some _ _).symm.trans H;with_reducible exact H2_)|with_reducible exact H|(rw [hy58];exact H)|exact H
      have Ny58:=Aside0.mk hy58
      clear hy58
      by_cases c55:0≤x4_1
      rotate_left
      ·rw [if_neg c55] at H
       exact absurd H (by simp)
      rw [if_pos c55] at H
      have c55b0:decide (0≤x4_1)=true:=decide_eq_true c55
      clear c55
      by_cases c56:x4_1<(l0.length:Int)
      rotate_left
      ·rw [if_neg c56] at H
       exact absurd H (by simp)
      rw [if_pos c56] at H
      have c56b0:decide (x4_1<(l0.length:Int))=true:=decide_eq_true c56
      clear c56
      by_cases c57:y58.length<2513169434916
      rotate_left
      ·rw [if_neg c57] at H
       exact absurd H (by simp)
      rw [if_pos c57] at H
      have LMc57:=Aside0.mk c57
      clear c57
      obtain ⟨y62,hy62⟩: ∃y_:List (S39),y_=(y58++ [(⟨(rd_T39 l0 x4_1).f0,(rd_T39 l0 x4_1).f1,(⟨(rd_T39 l0 x4_1).f2.f0,(rd_T39 l0 x4_1).f2.f1,(rd_T39 l0 x4_1).f2.f2⟩:S37)⟩:S39)]):=⟨_,rfl⟩
      replace H:((some (x3_1.drop (x6_2:Int).toNat:List (S39))).bind fun y65=>(if y62.length+y65.length<2513169434916 then (r10_Top.l0 k2 l0 (y62++y65) (wrap64 (x4_1+1))) else (none)))=some r:=by first|(rw [hy62];with_reducible exact H)|(have H2_:=(Option.bind_some _ _).symm.trans H;rw [hy62];with_reducible exact H2_)|(have H2_:=(Option.bind_some _ _).symm.trans H;with_reducible exact H2_)|with_reducible exact H|(rw [hy62];exact H)|exact H
      have Ny62:=Aside0.mk hy62
      clear hy62
      have c58b0:=eq_true (of_decide_eq_true zq_:0≤x6_2)
      have c59b0:=eq_true (of_decide_eq_true zq_:x6_2≤(x3_1.length:Int))
      obtain ⟨y65,hy65⟩: ∃y_:List (S39),y_=(x3_1.drop (x6_2:Int).toNat):=⟨_,rfl⟩
      replace H:(if y62.length+y65.length<2513169434916 then (r10_Top.l0 k2 l0 (y62++y65) (wrap64 (x4_1+1))) else (none))=some r:=by first|(rw [hy65];with_reducible exact H)|(have H2_:=(Option.bind_some _ _).symm.trans H;rw [hy65];with_reducible exact H2_)|(have H2_:=(Option.bind_some _ _).symm.trans H;with_reducible exact H2_)|with_reducible exact H|(rw [hy65];exact H)|exact H
      have Ny65:=Aside0.mk hy65
      clear hy65
      by_cases c60:y62.length+y65.length<2513169434916
      rotate_left
      ·rw [if_neg c60] at H
       exact absurd H (by simp)
      rw [if_pos c60] at H
      have LMc60:=Aside0.mk c60
      clear c60
      obtain ⟨y69,hy69⟩: ∃y_:List (S39),y_=(y62++y65):=⟨_,rfl⟩
      replace H:(r10_Top.l0 k2 l0 y69 (wrap64 (x4_1+1)))=some r:=by first|(rw [hy69];with_reducible exact H)|(have H2_:=(Option.bind_some _ _).symm.trans H;rw [hy69];with_reducible exact H2_)|(have H2_:=(Option.bind_some _ _).symm.trans H;with_reducible exact H2_)|with_reducible exact H|(rw [hy69];exact H)|exact H
      have Ny69:=Aside0.mk hy69
      clear hy69
      have H':=Aside0.mk H
      clear H
      try go_wp2
      replace HO_3:=am_ (Kd.R_drew HO_3.out)
      replace HB:=am_ (below_drew1 HB.out)
      obtain ⟨Ao62,co62,eo62⟩:=Kd.R_slice HO_3.out
      (first|subst eo62|(injection eo62 with f1_ f2_ f3_;have f4_:=f1_.symm;have f5_:=f3_.symm;clear f1_ f2_ f3_;subst f4_;subst f5_))
      refine start_ (n:=39) (S:=fun w'=>True) (ds:=[]) (bt_ 39 0) (by kernel_rfl) rfl rfl trivial (fun hHeld=> ?_);refine with_tabW r10_Top.tab7 r10_Top.bits7 (fun HT_ HW_=> ?_)
      generalize wr.drew=w61 at HO_3 HB hHeld ⊢
      refine pu_ (i:=0) (N:=some 21) (bt_ 39 1) HT_ ?_
      refine pu_ (i:=1) (N:=some 22) (bt_ 39 3) HT_ ?_
      refine pu_ (i:=2) (N:=some 23) (bt_ 39 7) HT_ ?_
      refine pu_ (i:=3) (N:=some 24) (bt_ 39 15) HT_ ?_
      refine pu_ (i:=4) (N:=some 25) (bt_ 39 31) HT_ ?_
      refine pn_ (i:=5) (N:=some 26) (bt_ 39 63) HT_ ?_
      refine pn_ (i:=6) (N:=some 27) (bt_ 39 127) HT_ ?_
      refine pn_ (i:=7) (N:=some 28) (bt_ 39 255) HT_ ?_
      refine pn_ (i:=8) (N:=some 29) (bt_ 39 511) HT_ ?_
      refine pn_ (i:=9) (N:=some 30) (bt_ 39 1023) HT_ ?_
      refine pn_ (i:=10) (N:=some 31) (bt_ 39 2047) HT_ ?_
      refine pn_ (i:=11) (N:=some 32) (bt_ 39 4095) HT_ ?_
      refine pn_ (i:=12) (N:=some 33) (bt_ 39 8191) HT_ ?_
      refine pn_ (i:=13) (N:=some 34) (bt_ 39 16383) HT_ ?_
      refine pn_ (i:=14) (N:=some 35) (bt_ 39 32767) HT_ ?_
      refine pn_ (i:=15) (N:=some 36) (bt_ 39 65535) HT_ ?_
      refine pn_ (i:=16) (N:=some 37) (bt_ 39 131071) HT_ ?_
      refine pn_ (i:=17) (N:=some 38) (bt_ 39 262143) HT_ ?_
      refine pn_ (i:=18) (N:=some 39) (bt_ 39 524287) HT_ ?_
      refine pn_ (i:=19) (N:=some 40) (bt_ 39 1048575) HT_ ?_
      refine pn_ (i:=20) (N:=some 41) (bt_ 39 2097151) HT_ ?_
      refine pn_ (i:=21) (N:=some 42) (bt_ 39 4194303) HT_ ?_
      refine pn_ (i:=22) (N:=some 43) (bt_ 39 8388607) HT_ ?_
      refine pn_ (i:=23) (N:=some 44) (bt_ 39 16777215) HT_ ?_
      refine pn_ (i:=24) (N:=some 45) (bt_ 39 33554431) HT_ ?_
      refine pn_ (i:=25) (N:=some 46) (bt_ 39 67108863) HT_ ?_
      refine pn_ (i:=26) (N:=some 47) (bt_ 39 134217727) HT_ ?_
      refine pn_ (i:=27) (N:=some 48) (bt_ 39 268435455) HT_ ?_
      refine pn_ (i:=28) (N:=some 49) (bt_ 39 536870911) HT_ ?_
      refine pn_ (i:=29) (N:=some 50) (bt_ 39 1073741823) HT_ ?_
      refine pn_ (i:=30) (N:=some 51) (bt_ 39 2147483647) HT_ ?_
      refine pn_ (i:=31) (N:=some 52) (bt_ 39 4294967295) HT_ ?_
      refine pn_ (i:=32) (N:=some 53) (bt_ 39 8589934591) HT_ ?_
      refine pn_ (i:=33) (N:=some 54) (bt_ 39 17179869183) HT_ ?_
      refine pn_ (i:=34) (N:=some 55) (bt_ 39 34359738367) HT_ ?_
      refine pn_ (i:=35) (N:=some 56) (bt_ 39 68719476735) HT_ ?_
      refine pn_ (i:=36) (N:=some 57) (bt_ 39 137438953471) HT_ ?_
      refine pn_ (i:=37) (N:=some 58) (bt_ 39 274877906943) HT_ ?_
      refine pu_ (i:=38) (N:=some 59) (bt_ 39 549755813887) HT_ ?_
      refine done_ (done_of HT_.out (by kernel_rfl)) ?_
      try go_wp2_with (first|((with_reducible refine gate_dst (N:=62) rfl ?_);refine Kd.R_lit k39 _ 39 ?hg (N:=62) ?hd (xs:=([]:List (S39))) (inner:=[]) (ok:=fun _=>True) (okp:=fun _=>True) ?hr ?hp (fun _ hk=>hk) trivial (Below.refl _ _) (Nat.le_refl _) (by simp) ?_;(case hd=>rfl);(case hg=>rfl);(case hr=>first|(go_simp;done)|(go_simp;rfl));(case hp=>exact (Reps.none _ _));intro v52 w63 ho64 hb hg_ hnew_;clear hg_ hnew_;(first|rw [←Ny51.out] at ho64|(simp only [Int.reduceToNat] at ho64;rw [←Ny51.out] at ho64));have HO53:=am_ (Kd.R_lower (Kd.R_new' ho64 (Kd.R_lt (zr_ HO_3))) (below_size (zl0_ HB)));replace HO_3:=am_ (Kd.R_elder' (zr_ HO_3) (Kd.R_base ho64) hb);replace HB:=am_ (below_step (zl0_ HB) hb);clear hb ho64;have q65:(x6_2:Int)≤((x3_1.length:Int):Int):=of_decide_eq_true zq_;obtain ⟨i065,hi065,_,hsz65,_⟩:=info_parts info39;have hroom65:x3_1.length≤co62:=(Kd.R_reads' HO_3.out).2.1;have hC65:Kd.C k39 _ Ao62 x3_1.length x3_1:=(Kd.R_reads' HO_3.out).2.2;have hcut65:=cut_to (P:=Try.prog) 22 39 .i64 Try.underlying22 hi065 Ao62 x3_1.length co62 x6_2 (of_decide_eq_true zq_) q65 hroom65;have hr65:=Kd.C_take (m:=(x6_2:Int).toNat) hC65 (by omega);have hy65:y54.length=(x6_2:Int).toNat:=(by rw [Ny54.out,List.length_take];omega);rw [←Ny54.out] at hr65;rw [←hy65] at hcut65;have HR57:=Aside0.mk hr65;have HC57:=am_ (show y54.length≤co62 from by omega);clear hr65 hC65 hroom65 hi065 hsz65;have KY65:=Aside0.mk hy65;clear hy65;have KL65:=am_ (show (x6_2:Int).toNat≤x3_1.length from by omega);replace q65:=eq_true q65)|((with_reducible refine gate_builtin (b:= .append) (xs:=#[.tmp 62, .tmp 65]) rfl ?_);at_builtin;refine Kd.R_append_rows k39 (w0:=w) w.heap.size rfl (.tmp 62) (.tmp 65) 22 39 (.agg #[(.string ⟨#[]⟩),(.string ⟨#[]⟩),(.int .i64 0),(.int .i64 0),(.int .i64 0)]) 56 rfl Try.underlying22 info39 rfl (by decide) (by omega) v52 y51 y54 _ _ _ (fun k_=>some k_≠(.slice Ao62 x3_1.length co62:Value).ownBlock) (fun _=>False) rfl rfl ?aO ?aR (fun _ _ h=>h) (fun _ h=>h.elim) ?aF ?aB ?aS ?aL ?_;(case aR=>repeat (first|exact (by repeat (first|(with_reducible exact HR57.out)|(with_reducible refine Kd.C_alloc ?_ _)|(with_reducible refine Kd.C_drewN ?_ _)|(with_reducible refine Kd.C_drew ?_)|exact HR57.out))|(with_reducible refine Kd.C_alloc ?_ _)|(with_reducible refine Kd.C_drewN ?_ _)|(with_reducible refine Kd.C_drew ?_)));(case aB=>exact (zl0_ HB));(case aF=>exact (fun k_ hk=>Kd.fresh' (Kd.R_lt (zr_ HO_3)) k_ hk));(case aO=>exact (by refine zt_ ?_;exact Kd.R_mono HO53.out (fun _ hk=>hk.2)));(case aS=>exact (below_size (zl0_ HB)));(case aL=>have:=LMc54.out;omega);intro v59 w66 ho hb hg hat;rw [←Ny58.out] at ho;have n0_:=am_ (Kd.R_after (ok:=(fun _=>True)) (zr_ HO_3) hg hat);have n1_:=am_ (hb);have n2_:=am_ ((show Kd.C k39 w66 Ao62 y54.length y54 from by rw [Ny54.out];exact Kd.C_take (m:=(x6_2:Int).toNat) ((Kd.R_reads' (Kd.R_after (ok:=(fun _=>True)) (zr_ HO_3) hg hat)).2.2) KL65.out));have n3_:=am_ (ho);clear HO_3;clear HB;clear HR57;clear HO53;have HO_3:=n0_;have HB:=n1_;have HR57:=n2_;have HO60:=n3_;clear n0_ n1_ n2_ n3_;clear ho hb hg hat;have p61:0≤(x4_1:Int):=of_decide_eq_true zq_;have q61:x4_1<(l0.length:Int):=of_decide_eq_true zq_;obtain ⟨ad61,e61,hx61_0,hx61_1,hx61_2,hx61_3,hx61_4⟩:=at_T39 HR0.out x4_1 p61 q61;obtain rfl:ad1=ad61:=(by injection e61);replace hx61_0:=zx_ HB hx61_0;replace hx61_1:=zx_ HB hx61_1;replace hx61_2:=zx_ HB hx61_2;replace hx61_3:=zx_ HB hx61_3;replace hx61_4:=zx_ HB hx61_4;replace p61:=eq_true p61;replace q61:=eq_true q61)|((with_reducible refine gate_builtin (b:= .append) (xs:=#[.tmp 67, .tmp 72]) rfl ?_);at_builtin;refine Kd.R_append k39 (w0:=w) w.heap.size rfl (.tmp 67) (.tmp 72) 22 39 (.agg #[(.string ⟨#[]⟩),(.string ⟨#[]⟩),(.int .i64 0),(.int .i64 0),(.int .i64 0)]) 56 rfl Try.underlying22 info39 rfl (by decide) (by omega) v59 y58 (⟨(rd_T39 l0 x4_1).f0,(rd_T39 l0 x4_1).f1,(⟨(rd_T39 l0 x4_1).f2.f0,(rd_T39 l0 x4_1).f2.f1,(rd_T39 l0 x4_1).f2.f2⟩:S37)⟩:S39) [.string ((rd_T39 l0 x4_1).f0), .string ((rd_T39 l0 x4_1).f1), .int .i64 ((rd_T39 l0 x4_1).f2.f0), .int .i64 ((rd_T39 l0 x4_1).f2.f1), .int .i64 ((rd_T39 l0 x4_1).f2.f2)] (fun k_=>some k_≠(.slice Ao62 x3_1.length co62:Value).ownBlock) (fun _=>False) rfl rfl ?aP (fun _ hk=>hk.elim) ?aF ?aO ?aB ?aS ?aL ?_;(case aP=>exact k39_mkM _ _ _ (⟨(rd_T39 l0 x4_1).f0,(rd_T39 l0 x4_1).f1,(⟨(rd_T39 l0 x4_1).f2.f0,(rd_T39 l0 x4_1).f2.f1,(rd_T39 l0 x4_1).f2.f2⟩:S37)⟩:S39));(case aB=>exact (zl0_ HB));(case aF=>exact (fun k_ hk=>Kd.fresh' (Kd.R_lt (zr_ HO_3)) k_ hk));(case aO=>exact (zr_ HO60));(case aS=>exact (below_size (zl0_ HB)));(case aL=>have:=LMc57.out;omega);intro v63 w67 ho hb hg hat;rw [←Ny62.out] at ho;have n0_:=am_ (Kd.R_after (ok:=(fun _=>True)) (zr_ HO_3) hg hat);have n1_:=am_ (hb);have n2_:=am_ ((show Kd.C k39 w67 Ao62 y54.length y54 from by rw [Ny54.out];exact Kd.C_take (m:=(x6_2:Int).toNat) ((Kd.R_reads' (Kd.R_after (ok:=(fun _=>True)) (zr_ HO_3) hg hat)).2.2) KL65.out));have n3_:=am_ (ho);clear HO_3;clear HB;clear HR57;clear HO60;have HO_3:=n0_;have HB:=n1_;have HR57:=n2_;have HO64:=n3_;clear n0_ n1_ n2_ n3_;clear ho hb hg hat;have q68:(x6_2:Int)≤((x3_1.length:Int):Int):=of_decide_eq_true zq_;obtain ⟨i068,hi068,_,hsz68,_⟩:=info_parts info39;have hroom68:x3_1.length≤co62:=(Kd.R_reads' HO_3.out).2.1;have hC68:Kd.C k39 _ Ao62 x3_1.length x3_1:=(Kd.R_reads' HO_3.out).2.2;have q068:(0:Int)≤(x6_2:Int):=of_decide_eq_true zq_;have hcut68:=cut_from (P:=Try.prog) 22 39 .i64 Try.underlying22 hi068 5 hsz68 Ao62 x3_1.length co62 x6_2 q068 q68;have hr68:=Kd.C_drop (m:=(x6_2:Int).toNat) (c:=co62) hC68 (by omega) hroom68;obtain ⟨A68,hA68⟩: ∃A1,A1=(if co62=(x6_2:Int).toNat then Ao62 else (Ao62:Option Addr).map (·.add ((x6_2:Int).toNat*5))):=⟨_,rfl⟩;obtain ⟨c68,hc68⟩: ∃c1,c1=co62 - (x6_2:Int).toNat:=⟨_,rfl⟩;have hy68:y65.length=x3_1.length - (x6_2:Int).toNat:=(by rw [Ny65.out,List.length_drop]<;>omega);rw [show (x3_1).drop (x6_2:Int).toNat=y65 from Ny65.out.symm] at hr68;replace hr68:Kd.C k39 _ A68 y65.length y65:=(by rw [hA68];exact hr68);rw [←hy68,←hA68,←hc68] at hcut68;have HR68:=Aside0.mk hr68;have HC68:=am_ (show y65.length≤c68 from by rw [hy68,hc68];exact Nat.sub_le_sub_right hroom68 _);clear hr68 hC68 hroom68 hi068 hsz68 hc68;have KY68:=Aside0.mk hy68;have KA68:=Aside0.mk hA68;clear hy68 hA68;have KL68:=am_ (show (x6_2:Int).toNat≤x3_1.length from by omega);replace q68:=eq_true q68)|((with_reducible refine gate_builtin (b:= .append) (xs:=#[.tmp 74, .tmp 77]) rfl ?_);at_builtin;refine Kd.R_append_rows k39 (w0:=w) w.heap.size rfl (.tmp 74) (.tmp 77) 22 39 (.agg #[(.string ⟨#[]⟩),(.string ⟨#[]⟩),(.int .i64 0),(.int .i64 0),(.int .i64 0)]) 56 rfl Try.underlying22 info39 rfl (by decide) (by omega) v63 y62 y65 _ _ _ (fun k_=>some k_≠(.slice Ao62 x3_1.length co62:Value).ownBlock) (fun _=>False) rfl rfl ?aO ?aR (fun _ _ h=>h) (fun _ h=>h.elim) ?aF ?aB ?aS ?aL ?_;(case aR=>repeat (first|exact (by repeat (first|(with_reducible exact HR68.out)|(with_reducible refine Kd.C_alloc ?_ _)|(with_reducible refine Kd.C_drewN ?_ _)|(with_reducible refine Kd.C_drew ?_)|exact HR68.out))|(with_reducible refine Kd.C_alloc ?_ _)|(with_reducible refine Kd.C_drewN ?_ _)|(with_reducible refine Kd.C_drew ?_)));(case aB=>exact (zl0_ HB));(case aF=>exact (fun k_ hk=>Kd.fresh' (Kd.R_lt (zr_ HO_3)) k_ hk));(case aO=>exact (zr_ HO64));(case aS=>exact (below_size (zl0_ HB)));(case aL=>have:=LMc60.out;omega);intro v70 w69 ho hb hg hat;rw [←Ny69.out] at ho;have n0_:=am_ (Kd.R_after (ok:=(fun _=>True)) (zr_ HO_3) hg hat);have n1_:=am_ (hb);have n2_:=am_ ((show Kd.C k39 w69 Ao62 y54.length y54 from by rw [Ny54.out];exact Kd.C_take (m:=(x6_2:Int).toNat) ((Kd.R_reads' (Kd.R_after (ok:=(fun _=>True)) (zr_ HO_3) hg hat)).2.2) KL65.out));have n3_:=am_ ((show Kd.C k39 w69 A68 y65.length y65 from by rw [Ny65.out,KA68.out];exact Kd.C_drop (m:=(x6_2:Int).toNat) (c:=co62) ((Kd.R_reads' (Kd.R_after (ok:=(fun _=>True)) (zr_ HO_3) hg hat)).2.2) KL68.out ((Kd.R_reads' (Kd.R_after (ok:=(fun _=>True)) (zr_ HO_3) hg hat)).2.1)));have n4_:=am_ (ho);clear HO_3;clear HB;clear HR57;clear HR68;clear HO64;have HO_3:=n0_;have HB:=n1_;have HR57:=n2_;have HR68:=n3_;have HO71:=n4_;clear n0_ n1_ n2_ n3_ n4_;clear ho hb hg hat))
      go_roundg k2
      case measure=>have:=HK1.out;have:=HK2.out;omega
      case rel=>exact ⟨(y69),(wrap64 (x4_1+1)),(by first|rfl|(simp;done)|(simp [*];done)),H',⟨by have:=HK1.out;have:=HK2.out;omega⟩,⟨by (with_reducible repeat (first|apply Kd.R_alloc|apply Kd.R_drewN|apply Kd.R_drew));exact Kd.R_mono HO71.out (fun _ hk=>trivial)⟩,⟨zl0_ HB⟩⟩
     rw [if_pos c5] at H
     have c5b0:decide (x6_2<(x3_1.length:Int))=true:=decide_eq_true c5
     clear c5
     by_cases c6:0≤x6_2
     rotate_left
     ·rw [if_neg c6] at H
      exact absurd H (by simp)
     rw [if_pos c6] at H
     have c6b0:decide (0≤x6_2)=true:=decide_eq_true c6
     clear c6
     replace H:=Option.bind_eq_some_iff.mp H
     obtain ⟨t4,A70,H⟩:=H
     try dsimp only at H
     have A7:=Aside0.mk A70
     clear A70
     by_cases c8:t4<t2
     ·rw [if_pos c8] at H
      have c8b0:decide (t4<t2)=true:=decide_eq_true c8
      clear c8
      have H':=Aside0.mk H
      clear H
      try go_wp2
      replace HO_3:=am_ (Kd.R_drew HO_3.out)
      replace HB:=am_ (below_drew1 HB.out)
      obtain ⟨Ao10,co10,eo10⟩:=Kd.R_slice HO_3.out
      (first|subst eo10|(injection eo10 with f1_ f2_ f3_;have f4_:=f1_.symm;have f5_:=f3_.symm;clear f1_ f2_ f3_;subst f4_;subst f5_))
      have p3:0≤(x6_2:Int):=of_decide_eq_true zq_
      have q3:x6_2<(x3_1.length:Int):=of_decide_eq_true zq_
      obtain ⟨ad3,e3,hx3_0,hx3_1,hx3_2,hx3_3,hx3_4⟩:=at_T39 (Kd.R_reads' HO_3.out).2.2 x6_2 p3 q3
      cases e3
      replace p3:=eq_true p3
      replace q3:=eq_true q3
      refine start_ (n:=39) (S:=fun w'=>w'.cell? (ad3.add ((x6_2).toNat*5))=some (.string ((rd_T39 x3_1 x6_2).f0))∧w'.cell? ⟨(ad3.add ((x6_2).toNat*5)).block,(ad3.add ((x6_2).toNat*5)).off+1,none⟩=some (.string ((rd_T39 x3_1 x6_2).f1))∧w'.cell? ⟨(ad3.add ((x6_2).toNat*5)).block,(ad3.add ((x6_2).toNat*5)).off+2,none⟩=some (.int .i64 ((rd_T39 x3_1 x6_2).f2.f0))∧w'.cell? ⟨(ad3.add ((x6_2).toNat*5)).block,(ad3.add ((x6_2).toNat*5)).off+3,none⟩=some (.int .i64 ((rd_T39 x3_1 x6_2).f2.f1))∧w'.cell? ⟨(ad3.add ((x6_2).toNat*5)).block,(ad3.add ((x6_2).toNat*5)).off+4,none⟩=some (.int .i64 ((rd_T39 x3_1 x6_2).f2.f2))) (ds:=[]) (bt_ 39 0) (by kernel_rfl) rfl rfl ⟨hx3_0,hx3_1,hx3_2,hx3_3,hx3_4⟩ (fun hHeld=> ?_);refine with_tabW r10_Top.tab7 r10_Top.bits7 (fun HT_ HW_=> ?_)
      generalize wr.drew=w9 at HO_3 HB hx3_0 hx3_1 hx3_2 hx3_3 hx3_4 hHeld ⊢
      refine pu_ (i:=0) (N:=some 21) (bt_ 39 1) HT_ ?_
      refine pu_ (i:=1) (N:=some 22) (bt_ 39 3) HT_ ?_
      refine pu_ (i:=2) (N:=some 23) (bt_ 39 7) HT_ ?_
      refine pu_ (i:=3) (N:=some 24) (bt_ 39 15) HT_ ?_
      refine pu_ (i:=4) (N:=some 25) (bt_ 39 31) HT_ ?_
      refine pu_ (i:=5) (N:=some 26) (bt_ 39 63) HT_ ?_
      refine pu_ (i:=6) (N:=some 27) (bt_ 39 127) HT_ ?_
      refine pu_ (i:=7) (N:=some 28) (bt_ 39 255) HT_ ?_
      refine pu_ (i:=8) (N:=some 29) (bt_ 39 511) HT_ ?_
      refine pu_ (i:=9) (N:=some 30) (bt_ 39 1023) HT_ ?_
      refine pu_ (i:=12) (N:=some 33) (bt_ 39 5119) HT_ ?_
      refine tk_ (i:=10) (N:=some 31) (bt_ 39 6143) HT_ HW_ hHeld ?_
      refine on_ (i:=11) (N:=some 32) (bt_ 39 8191) HT_ (fun K hK=> ?_)
      refine gs_ Try.func28 #[.slice (some ad1) l0.length c0, .string ((rd_T39 x3_1 x6_2).f0)] ?_
      with_reducible refine (r10_Depth.calls k2 _ _ l0 ((rd_T39 x3_1 x6_2).f0) t4 _ ?side1 ?side2 A7.out).mono ?_
      (case side1=>exact zc_ (Kd.C_below HR0.out HB.out))
      (case side2=>exact HC0.out)
      rintro e w' ⟨rfl,⟨nd,rfl⟩⟩
      refine ⟨_,rfl, ?_⟩
      refine hK.out _ _ ⟨hHeld.1,hHeld.2.1,hHeld.2.2.1,hHeld.2.2.2.1,hHeld.2.2.2.2⟩ (fun hHeld=> ?_)
      clear hK K
      refine no_ (N:=some 32) ?_
      refine pu_ (i:=13) (N:=some 34) (bt_ 39 16383) HT_ ?_
      refine pu_ (i:=14) (N:=some 35) (bt_ 39 32767) HT_ ?_
      refine pn_ (i:=15) (N:=some 36) (bt_ 39 65535) HT_ ?_
      refine pn_ (i:=16) (N:=some 37) (bt_ 39 131071) HT_ ?_
      refine pn_ (i:=17) (N:=some 38) (bt_ 39 262143) HT_ ?_
      refine pn_ (i:=18) (N:=some 39) (bt_ 39 524287) HT_ ?_
      refine pn_ (i:=19) (N:=some 40) (bt_ 39 1048575) HT_ ?_
      refine pn_ (i:=20) (N:=some 41) (bt_ 39 2097151) HT_ ?_
      refine pn_ (i:=21) (N:=some 42) (bt_ 39 4194303) HT_ ?_
      refine pn_ (i:=22) (N:=some 43) (bt_ 39 8388607) HT_ ?_
      refine pn_ (i:=23) (N:=some 44) (bt_ 39 16777215) HT_ ?_
      refine pn_ (i:=24) (N:=some 45) (bt_ 39 33554431) HT_ ?_
      refine pn_ (i:=25) (N:=some 46) (bt_ 39 67108863) HT_ ?_
      refine pn_ (i:=26) (N:=some 47) (bt_ 39 134217727) HT_ ?_
      refine pn_ (i:=27) (N:=some 48) (bt_ 39 268435455) HT_ ?_
      refine pn_ (i:=28) (N:=some 49) (bt_ 39 536870911) HT_ ?_
      refine pn_ (i:=29) (N:=some 50) (bt_ 39 1073741823) HT_ ?_
      refine pn_ (i:=30) (N:=some 51) (bt_ 39 2147483647) HT_ ?_
      refine pn_ (i:=31) (N:=some 52) (bt_ 39 4294967295) HT_ ?_
      refine pn_ (i:=32) (N:=some 53) (bt_ 39 8589934591) HT_ ?_
      refine pn_ (i:=33) (N:=some 54) (bt_ 39 17179869183) HT_ ?_
      refine pn_ (i:=34) (N:=some 55) (bt_ 39 34359738367) HT_ ?_
      refine pn_ (i:=35) (N:=some 56) (bt_ 39 68719476735) HT_ ?_
      refine pn_ (i:=36) (N:=some 57) (bt_ 39 137438953471) HT_ ?_
      refine pu_ (i:=37) (N:=some 58) (bt_ 39 274877906943) HT_ ?_
      refine pu_ (i:=38) (N:=some 59) (bt_ 39 549755813887) HT_ ?_
      refine done_ (done_of HT_.out (by kernel_rfl)) ?_
      try go_wp2
      go_roundg k2
      case measure=>have:=HK1.out;have:=HK2.out;omega
      case rel=>exact ⟨(wrap64 (x6_2+1)),(by first|rfl|(simp;done)|(simp [*];done)),H',⟨by have:=HK1.out;have:=HK2.out;omega⟩,⟨by (with_reducible repeat (first|apply Kd.R_alloc|apply Kd.R_drewN|apply Kd.R_drew));exact HO_3.out⟩,⟨zl0_ HB⟩⟩
     rw [if_neg c8] at H
     have c8b0:decide (t4<t2)=false:=decide_eq_false c8
     clear c8
     replace H:=Option.bind_eq_some_iff.mp H
     obtain ⟨t6,A110,H⟩:=H
     try dsimp only at H
     have A11:=Aside0.mk A110
     clear A110
     obtain rfl:t4=t6:=Option.some.inj (A7.out.symm.trans A11.out)
     by_cases c12:t4=t2
     rotate_left
     ·rw [if_neg c12] at H
      have c12b0:(t4==t2)=false:=beq_eq_false_iff_ne.mpr c12
      have c12b1:(t4 !=t2)=true:=bne_iff_ne.mpr c12
      obtain ⟨y30,hy30⟩: ∃y_:List (S39),y_=(([]:List (S39))):=⟨_,rfl⟩
      replace H:(if x6_2≤(x3_1.length:Int) then ((some (x3_1.take (x6_2:Int).toNat:List (S39))).bind fun y33=>(if y30.length+y33.length<2513169434916 then ((some (y30++y33:List (S39))).bind fun y37=>(if 0≤x4_1 then (if x4_1<(l0.length:Int) then (if y37.length<2513169434916 then ((some (y37++ [(⟨(rd_T39 l0 x4_1).f0,(rd_T39 l0 x4_1).f1,(⟨(rd_T39 l0 x4_1).f2.f0,(rd_T39 l0 x4_1).f2.f1,(rd_T39 l0 x4_1).f2.f2⟩:S37)⟩:S39)]:List (S39))).bind fun y41=>((some (x3_1.drop (x6_2:Int).toNat:List (S39))).bind fun y44=>(if y41.length+y44.length<2513169434916 then (r10_Top.l0 k2 l0 (y41++y44) (wrap64 (x4_1+1))) else (none)))) else (none)) else (none)) else (none))) else (none))) else (none))=some r:=by first|(rw [hy30];with_reducible exact H)|(have H2_:=(Option.bind_some _ _).symm.trans H;rw [hy30];with_reducible exact H2_)|(have H2_:=(Option.bind_some _ _).symm.trans H;with_reducible exact H2_)|with_reducible exact H|(rw [hy30];exact H)|exact H
      have Ny30:=Aside0.mk hy30
      clear hy30
      have c34b0:=eq_true (of_decide_eq_true zq_:0≤x6_2)
      by_cases c35:x6_2≤(x3_1.length:Int)
      rotate_left
      ·rw [if_neg c35] at H
       exact absurd H (by simp)
      rw [if_pos c35] at H
      have c35b0:=eq_true c35
      have c35b1:decide (x6_2≤(x3_1.length:Int))=true:=decide_eq_true c35
      clear c35
      obtain ⟨y33,hy33⟩: ∃y_:List (S39),y_=(x3_1.take (x6_2:Int).toNat):=⟨_,rfl⟩
      replace H:(if y30.length+y33.length<2513169434916 then ((some (y30++y33:List (S39))).bind fun y37=>(if 0≤x4_1 then (if x4_1<(l0.length:Int) then (if y37.length<2513169434916 then ((some (y37++ [(⟨(rd_T39 l0 x4_1).f0,(rd_T39 l0 x4_1).f1,(⟨(rd_T39 l0 x4_1).f2.f0,(rd_T39 l0 x4_1).f2.f1,(rd_T39 l0 x4_1).f2.f2⟩:S37)⟩:S39)]:List (S39))).bind fun y41=>((some (x3_1.drop (x6_2:Int).toNat:List (S39))).bind fun y44=>(if y41.length+y44.length<2513169434916 then (r10_Top.l0 k2 l0 (y41++y44) (wrap64 (x4_1+1))) else (none)))) else (none)) else (none)) else (none))) else (none))=some r:=by first|(rw [hy33];with_reducible exact H)|(have H2_:=(Option.bind_some _ _).symm.trans H;rw [hy33];with_reducible exact H2_)|(have H2_:=(Option.bind_some _ _).symm.trans H;with_reducible exact H2_)|with_reducible exact H|(rw [hy33];exact H)|exact H
      have Ny33:=Aside0.mk hy33
      clear hy33
      by_cases c36:y30.length+y33.length<2513169434916
      rotate_left
      ·rw [if_neg c36] at H
       exact absurd H (by simp)
      rw [if_pos c36] at H
      have LMc36:=Aside0.mk c36
      clear c36
      obtain ⟨y37,hy37⟩: ∃y_:List (S39),y_=(y30++y33):=⟨_,rfl⟩
      replace H:(if 0≤x4_1 then (if x4_1<(l0.length:Int) then (if y37.length<2513169434916 then ((some (y37++ [(⟨(rd_T39 l0 x4_1).f0,(rd_T39 l0 x4_1).f1,(⟨(rd_T39 l0 x4_1).f2.f0,(rd_T39 l0 x4_1).f2.f1,(rd_T39 l0 x4_1).f2.f2⟩:S37)⟩:S39)]:List (S39))).bind fun y41=>((some (x3_1.drop (x6_2:Int).toNat:List (S39))).bind fun y44=>(if y41.length+y44.length<2513169434916 then (r10_Top.l0 k2 l0 (y41++y44) (wrap64 (x4_1+1))) else (none)))) else (none)) else (none)) else (none))=some r:=by first|(rw [hy37];with_reducible exact H)|(have H2_:=(Option.bind_some _ _).symm.trans H;rw [hy37];with_reducible exact H2_)|(have H2_:=(Option.bind_some _ _).symm.trans H;with_reducible exact H2_)|with_reducible exact H|(rw [hy37];exact H)|exact H
      have Ny37:=Aside0.mk hy37
      clear hy37
      by_cases c37:0≤x4_1
      rotate_left
      ·rw [if_neg c37] at H
       exact absurd H (by simp)
      rw [if_pos c37] at H
      have c37b0:decide (0≤x4_1)=true:=decide_eq_true c37
      clear c37
      by_cases c38:x4_1<(l0.length:Int)
      rotate_left
      ·rw [if_neg c38] at H
       exact absurd H (by simp)
      rw [if_pos c38] at H
      have c38b0:decide (x4_1<(l0.length:Int))=true:=decide_eq_true c38
      clear c38
      by_cases c39:y37.length<2513169434916
      rotate_left
      ·rw [if_neg c39] at H
       exact absurd H (by simp)
      rw [if_pos c39] at H
      have LMc39:=Aside0.mk c39
      clear c39
      obtain ⟨y41,hy41⟩: ∃y_:List (S39),y_=(y37++ [(⟨(rd_T39 l0 x4_1).f0,(rd_T39 l0 x4_1).f1,(⟨(rd_T39 l0 x4_1).f2.f0,(rd_T39 l0 x4_1).f2.f1,(rd_T39 l0 x4_1).f2.f2⟩:S37)⟩:S39)]):=⟨_,rfl⟩
      replace H:((some (x3_1.drop (x6_2:Int).toNat:List (S39))).bind fun y44=>(if y41.length+y44.length<2513169434916 then (r10_Top.l0 k2 l0 (y41++y44) (wrap64 (x4_1+1))) else (none)))=some r:=by first|(rw [hy41];with_reducible exact H)|(have H2_:=(Option.bind_some _ _).symm.trans H;rw [hy41];with_reducible exact H2_)|(have H2_:=(Option.bind_some _ _).symm.trans H;with_reducible exact H2_)|with_reducible exact H|(rw [hy41];exact H)|exact H
      have Ny41:=Aside0.mk hy41
      clear hy41
      have c40b0:=eq_true (of_decide_eq_true zq_:0≤x6_2)
      have c41b0:=eq_true (of_decide_eq_true zq_:x6_2≤(x3_1.length:Int))
      obtain ⟨y44,hy44⟩: ∃y_:List (S39),y_=(x3_1.drop (x6_2:Int).toNat):=⟨_,rfl⟩
      replace H:(if y41.length+y44.length<2513169434916 then (r10_Top.l0 k2 l0 (y41++y44) (wrap64 (x4_1+1))) else (none))=some r:=by first|(rw [hy44];with_reducible exact H)|(have H2_:=(Option.bind_some _ _).symm.trans H;rw [hy44];with_reducible exact H2_)|(have H2_:=(Option.bind_some _ _).symm.trans H;with_reducible exact H2_)|with_reducible exact H|(rw [hy44];exact H)|exact H
      have Ny44:=Aside0.mk hy44
      clear hy44
      by_cases c42:y41.length+y44.length<2513169434916
      rotate_left
      ·rw [if_neg c42] at H
       exact absurd H (by simp)
      rw [if_pos c42] at H
      have LMc42:=Aside0.mk c42
      clear c42
      obtain ⟨y48,hy48⟩: ∃y_:List (S39),y_=(y41++y44):=⟨_,rfl⟩
      replace H:(r10_Top.l0 k2 l0 y48 (wrap64 (x4_1+1)))=some r:=by first|(rw [hy48];with_reducible exact H)|(have H2_:=(Option.bind_some _ _).symm.trans H;rw [hy48];with_reducible exact H2_)|(have H2_:=(Option.bind_some _ _).symm.trans H;with_reducible exact H2_)|with_reducible exact H|(rw [hy48];exact H)|exact H
      have Ny48:=Aside0.mk hy48
      clear hy48
      have H':=Aside0.mk H
      clear H
      try go_wp2
      replace HO_3:=am_ (Kd.R_drew HO_3.out)
      replace HB:=am_ (below_drew1 HB.out)
      obtain ⟨Ao44,co44,eo44⟩:=Kd.R_slice HO_3.out
      (first|subst eo44|(injection eo44 with f1_ f2_ f3_;have f4_:=f1_.symm;have f5_:=f3_.symm;clear f1_ f2_ f3_;subst f4_;subst f5_))
      have p3:0≤(x6_2:Int):=of_decide_eq_true zq_
      have q3:x6_2<(x3_1.length:Int):=of_decide_eq_true zq_
      obtain ⟨ad3,e3,hx3_0,hx3_1,hx3_2,hx3_3,hx3_4⟩:=at_T39 (Kd.R_reads' HO_3.out).2.2 x6_2 p3 q3
      cases e3
      replace p3:=eq_true p3
      replace q3:=eq_true q3
      have p5:0≤(x6_2:Int):=of_decide_eq_true zq_
      have q5:x6_2<(x3_1.length:Int):=of_decide_eq_true zq_
      obtain ⟨ad5,e5,hx5_0,hx5_1,hx5_2,hx5_3,hx5_4⟩:=at_T39 (Kd.R_reads' HO_3.out).2.2 x6_2 p5 q5
      obtain rfl:ad3=ad5:=(by injection e5)
      replace p5:=eq_true p5
      replace q5:=eq_true q5
      refine start_ (n:=39) (S:=fun w'=>w'.cell? (ad3.add ((x6_2).toNat*5))=some (.string ((rd_T39 x3_1 x6_2).f0))∧w'.cell? ⟨(ad3.add ((x6_2).toNat*5)).block,(ad3.add ((x6_2).toNat*5)).off+1,none⟩=some (.string ((rd_T39 x3_1 x6_2).f1))∧w'.cell? ⟨(ad3.add ((x6_2).toNat*5)).block,(ad3.add ((x6_2).toNat*5)).off+2,none⟩=some (.int .i64 ((rd_T39 x3_1 x6_2).f2.f0))∧w'.cell? ⟨(ad3.add ((x6_2).toNat*5)).block,(ad3.add ((x6_2).toNat*5)).off+3,none⟩=some (.int .i64 ((rd_T39 x3_1 x6_2).f2.f1))∧w'.cell? ⟨(ad3.add ((x6_2).toNat*5)).block,(ad3.add ((x6_2).toNat*5)).off+4,none⟩=some (.int .i64 ((rd_T39 x3_1 x6_2).f2.f2))∧w'.cell? (ad3.add ((x6_2).toNat*5))=some (.string ((rd_T39 x3_1 x6_2).f0))∧w'.cell? ⟨(ad3.add ((x6_2).toNat*5)).block,(ad3.add ((x6_2).toNat*5)).off+1,none⟩=some (.string ((rd_T39 x3_1 x6_2).f1))∧w'.cell? ⟨(ad3.add ((x6_2).toNat*5)).block,(ad3.add ((x6_2).toNat*5)).off+2,none⟩=some (.int .i64 ((rd_T39 x3_1 x6_2).f2.f0))∧w'.cell? ⟨(ad3.add ((x6_2).toNat*5)).block,(ad3.add ((x6_2).toNat*5)).off+3,none⟩=some (.int .i64 ((rd_T39 x3_1 x6_2).f2.f1))∧w'.cell? ⟨(ad3.add ((x6_2).toNat*5)).block,(ad3.add ((x6_2).toNat*5)).off+4,none⟩=some (.int .i64 ((rd_T39 x3_1 x6_2).f2.f2))) (ds:=[]) (bt_ 39 0) (by kernel_rfl) rfl rfl ⟨hx3_0,hx3_1,hx3_2,hx3_3,hx3_4,hx5_0,hx5_1,hx5_2,hx5_3,hx5_4⟩ (fun hHeld=> ?_);refine with_tabW r10_Top.tab7 r10_Top.bits7 (fun HT_ HW_=> ?_)
      generalize wr.drew=w43 at HO_3 HB hx3_0 hx3_1 hx3_2 hx3_3 hx3_4 hx5_0 hx5_1 hx5_2 hx5_3 hx5_4 hHeld ⊢
      refine pu_ (i:=0) (N:=some 21) (bt_ 39 1) HT_ ?_
      refine pu_ (i:=1) (N:=some 22) (bt_ 39 3) HT_ ?_
      refine pu_ (i:=2) (N:=some 23) (bt_ 39 7) HT_ ?_
      refine pu_ (i:=3) (N:=some 24) (bt_ 39 15) HT_ ?_
      refine pu_ (i:=4) (N:=some 25) (bt_ 39 31) HT_ ?_
      refine pu_ (i:=5) (N:=some 26) (bt_ 39 63) HT_ ?_
      refine pu_ (i:=6) (N:=some 27) (bt_ 39 127) HT_ ?_
      refine pu_ (i:=7) (N:=some 28) (bt_ 39 255) HT_ ?_
      refine pu_ (i:=8) (N:=some 29) (bt_ 39 511) HT_ ?_
      refine pu_ (i:=9) (N:=some 30) (bt_ 39 1023) HT_ ?_
      refine pu_ (i:=12) (N:=some 33) (bt_ 39 5119) HT_ ?_
      refine tk_ (i:=10) (N:=some 31) (bt_ 39 6143) HT_ HW_ hHeld ?_
      refine on_ (i:=11) (N:=some 32) (bt_ 39 8191) HT_ (fun K hK=> ?_)
      refine gs_ Try.func28 #[.slice (some ad1) l0.length c0, .string ((rd_T39 x3_1 x6_2).f0)] ?_
      with_reducible refine (r10_Depth.calls k2 _ _ l0 ((rd_T39 x3_1 x6_2).f0) t4 _ ?side1 ?side2 A7.out).mono ?_
      (case side1=>exact zc_ (Kd.C_below HR0.out HB.out))
      (case side2=>exact HC0.out)
      rintro e w' ⟨rfl,⟨nd,rfl⟩⟩
      refine ⟨_,rfl, ?_⟩
      refine hK.out _ _ ⟨hHeld.1,hHeld.2.1,hHeld.2.2.1,hHeld.2.2.2.1,hHeld.2.2.2.2.1,hHeld.2.2.2.2.2.1,hHeld.2.2.2.2.2.2.1,hHeld.2.2.2.2.2.2.2.1,hHeld.2.2.2.2.2.2.2.2.1,hHeld.2.2.2.2.2.2.2.2.2⟩ (fun hHeld=> ?_)
      clear hK K
      refine no_ (N:=some 32) ?_
      refine pu_ (i:=13) (N:=some 34) (bt_ 39 16383) HT_ ?_
      refine pu_ (i:=14) (N:=some 35) (bt_ 39 32767) HT_ ?_
      refine pu_ (i:=15) (N:=some 36) (bt_ 39 65535) HT_ ?_
      refine pu_ (i:=16) (N:=some 37) (bt_ 39 131071) HT_ ?_
      refine pu_ (i:=17) (N:=some 38) (bt_ 39 262143) HT_ ?_
      refine pu_ (i:=18) (N:=some 39) (bt_ 39 524287) HT_ ?_
      refine pu_ (i:=19) (N:=some 40) (bt_ 39 1048575) HT_ ?_
      refine pu_ (i:=22) (N:=some 43) (bt_ 39 5242879) HT_ ?_
      refine tk_ (i:=20) (N:=some 41) (bt_ 39 6291455) HT_ HW_ hHeld ?_
      refine on_ (i:=21) (N:=some 42) (bt_ 39 8388607) HT_ (fun K hK=> ?_)
      refine gs_ Try.func28 #[.slice (some ad1) l0.length c0, .string ((rd_T39 x3_1 x6_2).f0)] ?_
      with_reducible refine (r10_Depth.calls k2 _ _ l0 ((rd_T39 x3_1 x6_2).f0) t4 _ ?side1 ?side2 A11.out).mono ?_
      (case side1=>repeat (first|exact (Kd.C_below HR0.out (zl0_ HB))|(with_reducible refine Kd.C_alloc ?_ _)|(with_reducible refine Kd.C_drewN ?_ _)|(with_reducible refine Kd.C_drew ?_)))
      (case side2=>exact HC0.out)
      rintro e w' ⟨rfl,⟨nd,rfl⟩⟩
      refine ⟨_,rfl, ?_⟩
      refine hK.out _ _ ⟨hHeld.1,hHeld.2.1,hHeld.2.2.1,hHeld.2.2.2.1,hHeld.2.2.2.2.1,hHeld.2.2.2.2.2.1,hHeld.2.2.2.2.2.2.1,hHeld.2.2.2.2.2.2.2.1,hHeld.2.2.2.2.2.2.2.2.1,hHeld.2.2.2.2.2.2.2.2.2⟩ (fun hHeld=> ?_)
      clear hK K
      refine no_ (N:=some 42) ?_
      refine pu_ (i:=23) (N:=some 44) (bt_ 39 16777215) HT_ ?_
      refine pu_ (i:=24) (N:=some 45) (bt_ 39 33554431) HT_ ?_
      refine pn_ (i:=25) (N:=some 46) (bt_ 39 67108863) HT_ ?_
      refine pn_ (i:=26) (N:=some 47) (bt_ 39 134217727) HT_ ?_
      refine pn_ (i:=27) (N:=some 48) (bt_ 39 268435455) HT_ ?_
      refine pn_ (i:=28) (N:=some 49) (bt_ 39 536870911) HT_ ?_
      refine pn_ (i:=29) (N:=some 50) (bt_ 39 1073741823) HT_ ?_
      refine pn_ (i:=30) (N:=some 51) (bt_ 39 2147483647) HT_ ?_
      refine pn_ (i:=31) (N:=some 52) (bt_ 39 4294967295) HT_ ?_
      refine pn_ (i:=32) (N:=some 53) (bt_ 39 8589934591) HT_ ?_
      refine pn_ (i:=33) (N:=some 54) (bt_ 39 17179869183) HT_ ?_
      refine pn_ (i:=34) (N:=some 55) (bt_ 39 34359738367) HT_ ?_
      refine pn_ (i:=35) (N:=some 56) (bt_ 39 68719476735) HT_ ?_
      refine pu_ (i:=36) (N:=some 57) (bt_ 39 137438953471) HT_ ?_
      refine pu_ (i:=37) (N:=some 58) (bt_ 39 274877906943) HT_ ?_
      refine pu_ (i:=38) (N:=some 59) (bt_ 39 549755813887) HT_ ?_
      refine done_ (done_of HT_.out (by kernel_rfl)) ?_
      try go_wp2_with (first|((with_reducible refine gate_dst (N:=62) rfl ?_);refine Kd.R_lit k39 _ 39 ?hg (N:=62) ?hd (xs:=([]:List (S39))) (inner:=[]) (ok:=fun _=>True) (okp:=fun _=>True) ?hr ?hp (fun _ hk=>hk) trivial (Below.refl _ _) (Nat.le_refl _) (by simp) ?_;(case hd=>rfl);(case hg=>rfl);(case hr=>first|(go_simp;done)|(go_simp;rfl));(case hp=>exact (Reps.none _ _));intro v31 w45 ho46 hb hg_ hnew_;clear hg_ hnew_;(first|rw [←Ny30.out] at ho46|(simp only [Int.reduceToNat] at ho46;rw [←Ny30.out] at ho46));have HO32:=am_ (Kd.R_lower (Kd.R_new' ho46 (Kd.R_lt (zr_ HO_3))) (below_size (zl0_ HB)));replace HO_3:=am_ (Kd.R_elder' (zr_ HO_3) (Kd.R_base ho46) hb);replace HB:=am_ (below_step (zl0_ HB) hb);clear hb ho46;have q47:(x6_2:Int)≤((x3_1.length:Int):Int):=of_decide_eq_true zq_;obtain ⟨i047,hi047,_,hsz47,_⟩:=info_parts info39;have hroom47:x3_1.length≤co44:=(Kd.R_reads' HO_3.out).2.1;have hC47:Kd.C k39 _ (some ad3) x3_1.length x3_1:=(Kd.R_reads' HO_3.out).2.2;have hcut47:=cut_to (P:=Try.prog) 22 39 .i64 Try.underlying22 hi047 (some ad3) x3_1.length co44 x6_2 (of_decide_eq_true zq_) q47 hroom47;have hr47:=Kd.C_take (m:=(x6_2:Int).toNat) hC47 (by omega);have hy47:y33.length=(x6_2:Int).toNat:=(by rw [Ny33.out,List.length_take];omega);rw [←Ny33.out] at hr47;rw [←hy47] at hcut47;have HR36:=Aside0.mk hr47;have HC36:=am_ (show y33.length≤co44 from by omega);clear hr47 hC47 hroom47 hi047 hsz47;have KY47:=Aside0.mk hy47;clear hy47;have KL47:=am_ (show (x6_2:Int).toNat≤x3_1.length from by omega);replace q47:=eq_true q47)|((with_reducible refine gate_builtin (b:= .append) (xs:=#[.tmp 62, .tmp 65]) rfl ?_);at_builtin;refine Kd.R_append_rows k39 (w0:=w) w.heap.size rfl (.tmp 62) (.tmp 65) 22 39 (.agg #[(.string ⟨#[]⟩),(.string ⟨#[]⟩),(.int .i64 0),(.int .i64 0),(.int .i64 0)]) 56 rfl Try.underlying22 info39 rfl (by decide) (by omega) v31 y30 y33 _ _ _ (fun k_=>some k_≠(.slice (some ad3) x3_1.length co44:Value).ownBlock) (fun _=>False) rfl rfl ?aO ?aR (fun _ _ h=>h) (fun _ h=>h.elim) ?aF ?aB ?aS ?aL ?_;(case aR=>repeat (first|exact (by repeat (first|(with_reducible exact HR36.out)|(with_reducible refine Kd.C_alloc ?_ _)|(with_reducible refine Kd.C_drewN ?_ _)|(with_reducible refine Kd.C_drew ?_)|exact HR36.out))|(with_reducible refine Kd.C_alloc ?_ _)|(with_reducible refine Kd.C_drewN ?_ _)|(with_reducible refine Kd.C_drew ?_)));(case aB=>exact (zl0_ HB));(case aF=>exact (fun k_ hk=>Kd.fresh' (Kd.R_lt (zr_ HO_3)) k_ hk));(case aO=>exact (by refine zt_ ?_;exact Kd.R_mono HO32.out (fun _ hk=>hk.2)));(case aS=>exact (below_size (zl0_ HB)));(case aL=>have:=LMc36.out;omega);intro v38 w48 ho hb hg hat;rw [←Ny37.out] at ho;have n0_:=am_ (Kd.R_after (ok:=(fun _=>True)) (zr_ HO_3) hg hat);have n1_:=am_ (hb);have n2_:=am_ ((show Kd.C k39 w48 (some ad3) y33.length y33 from by rw [Ny33.out];exact Kd.C_take (m:=(x6_2:Int).toNat) ((Kd.R_reads' (Kd.R_after (ok:=(fun _=>True)) (zr_ HO_3) hg hat)).2.2) KL47.out));have n3_:=am_ (ho);clear HO_3;clear HB;clear HR36;clear HO32;have HO_3:=n0_;have HB:=n1_;have HR36:=n2_;have HO39:=n3_;clear n0_ n1_ n2_ n3_;clear ho hb hg hat;have p40:0≤(x4_1:Int):=of_decide_eq_true zq_;have q40:x4_1<(l0.length:Int):=of_decide_eq_true zq_;obtain ⟨ad40,e40,hx40_0,hx40_1,hx40_2,hx40_3,hx40_4⟩:=at_T39 HR0.out x4_1 p40 q40;obtain rfl:ad1=ad40:=(by injection e40);replace hx40_0:=zx_ HB hx40_0;replace hx40_1:=zx_ HB hx40_1;replace hx40_2:=zx_ HB hx40_2;replace hx40_3:=zx_ HB hx40_3;replace hx40_4:=zx_ HB hx40_4;replace p40:=eq_true p40;replace q40:=eq_true q40)|((with_reducible refine gate_builtin (b:= .append) (xs:=#[.tmp 67, .tmp 72]) rfl ?_);at_builtin;refine Kd.R_append k39 (w0:=w) w.heap.size rfl (.tmp 67) (.tmp 72) 22 39 (.agg #[(.string ⟨#[]⟩),(.string ⟨#[]⟩),(.int .i64 0),(.int .i64 0),(.int .i64 0)]) 56 rfl Try.underlying22 info39 rfl (by decide) (by omega) v38 y37 (⟨(rd_T39 l0 x4_1).f0,(rd_T39 l0 x4_1).f1,(⟨(rd_T39 l0 x4_1).f2.f0,(rd_T39 l0 x4_1).f2.f1,(rd_T39 l0 x4_1).f2.f2⟩:S37)⟩:S39) [.string ((rd_T39 l0 x4_1).f0), .string ((rd_T39 l0 x4_1).f1), .int .i64 ((rd_T39 l0 x4_1).f2.f0), .int .i64 ((rd_T39 l0 x4_1).f2.f1), .int .i64 ((rd_T39 l0 x4_1).f2.f2)] (fun k_=>some k_≠(.slice (some ad3) x3_1.length co44:Value).ownBlock) (fun _=>False) rfl rfl ?aP (fun _ hk=>hk.elim) ?aF ?aO ?aB ?aS ?aL ?_;(case aP=>exact k39_mkM _ _ _ (⟨(rd_T39 l0 x4_1).f0,(rd_T39 l0 x4_1).f1,(⟨(rd_T39 l0 x4_1).f2.f0,(rd_T39 l0 x4_1).f2.f1,(rd_T39 l0 x4_1).f2.f2⟩:S37)⟩:S39));(case aB=>exact (zl0_ HB));(case aF=>exact (fun k_ hk=>Kd.fresh' (Kd.R_lt (zr_ HO_3)) k_ hk));(case aO=>exact (zr_ HO39));(case aS=>exact (below_size (zl0_ HB)));(case aL=>have:=LMc39.out;omega);intro v42 w49 ho hb hg hat;rw [←Ny41.out] at ho;have n0_:=am_ (Kd.R_after (ok:=(fun _=>True)) (zr_ HO_3) hg hat);have n1_:=am_ (hb);have n2_:=am_ ((show Kd.C k39 w49 (some ad3) y33.length y33 from by rw [Ny33.out];exact Kd.C_take (m:=(x6_2:Int).toNat) ((Kd.R_reads' (Kd.R_after (ok:=(fun _=>True)) (zr_ HO_3) hg hat)).2.2) KL47.out));have n3_:=am_ (ho);clear HO_3;clear HB;clear HR36;clear HO39;have HO_3:=n0_;have HB:=n1_;have HR36:=n2_;have HO43:=n3_;clear n0_ n1_ n2_ n3_;clear ho hb hg hat;have q50:(x6_2:Int)≤((x3_1.length:Int):Int):=of_decide_eq_true zq_;obtain ⟨i050,hi050,_,hsz50,_⟩:=info_parts info39;have hroom50:x3_1.length≤co44:=(Kd.R_reads' HO_3.out).2.1;have hC50:Kd.C k39 _ (some ad3) x3_1.length x3_1:=(Kd.R_reads' HO_3.out).2.2;have q050:(0:Int)≤(x6_2:Int):=of_decide_eq_true zq_;have hcut50:=cut_from (P:=Try.prog) 22 39 .i64 Try.underlying22 hi050 5 hsz50 (some ad3) x3_1.length co44 x6_2 q050 q50;have hr50:=Kd.C_drop (m:=(x6_2:Int).toNat) (c:=co44) hC50 (by omega) hroom50;obtain ⟨A50,hA50⟩: ∃A1,A1=(if co44=(x6_2:Int).toNat then (some ad3) else ((some ad3):Option Addr).map (·.add ((x6_2:Int).toNat*5))):=⟨_,rfl⟩;obtain ⟨c50,hc50⟩: ∃c1,c1=co44 - (x6_2:Int).toNat:=⟨_,rfl⟩;have hy50:y44.length=x3_1.length - (x6_2:Int).toNat:=(by rw [Ny44.out,List.length_drop]<;>omega);rw [show (x3_1).drop (x6_2:Int).toNat=y44 from Ny44.out.symm] at hr50;replace hr50:Kd.C k39 _ A50 y44.length y44:=(by rw [hA50];exact hr50);rw [←hy50,←hA50,←hc50] at hcut50;have HR47:=Aside0.mk hr50;have HC47:=am_ (show y44.length≤c50 from by rw [hy50,hc50];exact Nat.sub_le_sub_right hroom50 _);clear hr50 hC50 hroom50 hi050 hsz50 hc50;have KY50:=Aside0.mk hy50;have KA50:=Aside0.mk hA50;clear hy50 hA50;have KL50:=am_ (show (x6_2:Int).toNat≤x3_1.length from by omega);replace q50:=eq_true q50)|((with_reducible refine gate_builtin (b:= .append) (xs:=#[.tmp 74, .tmp 77]) rfl ?_);at_builtin;refine Kd.R_append_rows k39 (w0:=w) w.heap.size rfl (.tmp 74) (.tmp 77) 22 39 (.agg #[(.string ⟨#[]⟩),(.string ⟨#[]⟩),(.int .i64 0),(.int .i64 0),(.int .i64 0)]) 56 rfl Try.underlying22 info39 rfl (by decide) (by omega) v42 y41 y44 _ _ _ (fun k_=>some k_≠(.slice (some ad3) x3_1.length co44:Value).ownBlock) (fun _=>False) rfl rfl ?aO ?aR (fun _ _ h=>h) (fun _ h=>h.elim) ?aF ?aB ?aS ?aL ?_;(case aR=>repeat (first|exact (by repeat (first|(with_reducible exact HR47.out)|(with_reducible refine Kd.C_alloc ?_ _)|(with_reducible refine Kd.C_drewN ?_ _)|(with_reducible refine Kd.C_drew ?_)|exact HR47.out))|(with_reducible refine Kd.C_alloc ?_ _)|(with_reducible refine Kd.C_drewN ?_ _)|(with_reducible refine Kd.C_drew ?_)));(case aB=>exact (zl0_ HB));(case aF=>exact (fun k_ hk=>Kd.fresh' (Kd.R_lt (zr_ HO_3)) k_ hk));(case aO=>exact (zr_ HO43));(case aS=>exact (below_size (zl0_ HB)));(case aL=>have:=LMc42.out;omega);intro v49 w51 ho hb hg hat;rw [←Ny48.out] at ho;have n0_:=am_ (Kd.R_after (ok:=(fun _=>True)) (zr_ HO_3) hg hat);have n1_:=am_ (hb);have n2_:=am_ ((show Kd.C k39 w51 (some ad3) y33.length y33 from by rw [Ny33.out];exact Kd.C_take (m:=(x6_2:Int).toNat) ((Kd.R_reads' (Kd.R_after (ok:=(fun _=>True)) (zr_ HO_3) hg hat)).2.2) KL47.out));have n3_:=am_ ((show Kd.C k39 w51 A50 y44.length y44 from by rw [Ny44.out,KA50.out];exact Kd.C_drop (m:=(x6_2:Int).toNat) (c:=co44) ((Kd.R_reads' (Kd.R_after (ok:=(fun _=>True)) (zr_ HO_3) hg hat)).2.2) KL50.out ((Kd.R_reads' (Kd.R_after (ok:=(fun _=>True)) (zr_ HO_3) hg hat)).2.1)));have n4_:=am_ (ho);clear HO_3;clear HB;clear HR36;clear HR47;clear HO43;have HO_3:=n0_;have HB:=n1_;have HR36:=n2_;have HR47:=n3_;have HO50:=n4_;clear n0_ n1_ n2_ n3_ n4_;clear ho hb hg hat))
      go_roundg k2
      case measure=>have:=HK1.out;have:=HK2.out;omega
      case rel=>exact ⟨(y48),(wrap64 (x4_1+1)),(by first|rfl|(simp;done)|(simp [*];done)),H',⟨by have:=HK1.out;have:=HK2.out;omega⟩,⟨by (with_reducible repeat (first|apply Kd.R_alloc|apply Kd.R_drewN|apply Kd.R_drew));exact Kd.R_mono HO50.out (fun _ hk=>trivial)⟩,⟨zl0_ HB⟩⟩
     rw [if_pos c12] at H
     have c12b0:(t4==t2)=true:=beq_iff_eq.mpr c12
     have c12b1:(t4 !=t2)=false:=bne_eq_false_iff_eq.mpr c12
     clear c12
     by_cases c13:0≤x4_1
     rotate_left
     ·rw [if_neg c13] at H
      exact absurd H (by simp)
     rw [if_pos c13] at H
     have c13b0:decide (0≤x4_1)=true:=decide_eq_true c13
     clear c13
     by_cases c14:x4_1<(l0.length:Int)
     rotate_left
     ·rw [if_neg c14] at H
      exact absurd H (by simp)
     rw [if_pos c14] at H
     have c14b0:decide (x4_1<(l0.length:Int))=true:=decide_eq_true c14
     clear c14
     by_cases c15:(Op.bytesLess (((rd_T39 x3_1 x6_2).f0).toList) (((rd_T39 l0 x4_1).f0).toList))=true
     ·rw [if_pos c15] at H
      have c15b0:(Op.bytesLess (((rd_T39 x3_1 x6_2).f0).toList) (((rd_T39 l0 x4_1).f0).toList))=true:=c15
      clear c15
      have H':=Aside0.mk H
      clear H
      try go_wp2
      replace HO_3:=am_ (Kd.R_drew HO_3.out)
      replace HB:=am_ (below_drew1 HB.out)
      obtain ⟨Ao17,co17,eo17⟩:=Kd.R_slice HO_3.out
      (first|subst eo17|(injection eo17 with f1_ f2_ f3_;have f4_:=f1_.symm;have f5_:=f3_.symm;clear f1_ f2_ f3_;subst f4_;subst f5_))
      have p3:0≤(x6_2:Int):=of_decide_eq_true zq_
      have q3:x6_2<(x3_1.length:Int):=of_decide_eq_true zq_
      obtain ⟨ad3,e3,hx3_0,hx3_1,hx3_2,hx3_3,hx3_4⟩:=at_T39 (Kd.R_reads' HO_3.out).2.2 x6_2 p3 q3
      cases e3
      replace p3:=eq_true p3
      replace q3:=eq_true q3
      have p5:0≤(x6_2:Int):=of_decide_eq_true zq_
      have q5:x6_2<(x3_1.length:Int):=of_decide_eq_true zq_
      obtain ⟨ad5,e5,hx5_0,hx5_1,hx5_2,hx5_3,hx5_4⟩:=at_T39 (Kd.R_reads' HO_3.out).2.2 x6_2 p5 q5
      obtain rfl:ad3=ad5:=(by injection e5)
      replace p5:=eq_true p5
      replace q5:=eq_true q5
      have p7:0≤(x6_2:Int):=of_decide_eq_true zq_
      have q7:x6_2<(x3_1.length:Int):=of_decide_eq_true zq_
      obtain ⟨ad7,e7,hx7_0,hx7_1,hx7_2,hx7_3,hx7_4⟩:=at_T39 (Kd.R_reads' HO_3.out).2.2 x6_2 p7 q7
      obtain rfl:ad3=ad7:=(by injection e7)
      replace p7:=eq_true p7
      replace q7:=eq_true q7
      have p8:0≤(x4_1:Int):=of_decide_eq_true zq_
      have q8:x4_1<(l0.length:Int):=of_decide_eq_true zq_
      obtain ⟨ad8,e8,hx8_0,hx8_1,hx8_2,hx8_3,hx8_4⟩:=at_T39 HR0.out x4_1 p8 q8
      have hw8_4:=hx8_4
      have hw8_3:=hx8_3
      have hw8_2:=hx8_2
      have hw8_1:=hx8_1
      have hw8_0:=hx8_0
      obtain rfl:ad1=ad8:=(by injection e8)
      replace hx8_0:=zx_ HB hx8_0
      replace hx8_1:=zx_ HB hx8_1
      replace hx8_2:=zx_ HB hx8_2
      replace hx8_3:=zx_ HB hx8_3
      replace hx8_4:=zx_ HB hx8_4
      replace p8:=eq_true p8
      replace q8:=eq_true q8
      refine start_ (n:=39) (S:=fun w'=>w'.cell? (ad3.add ((x6_2).toNat*5))=some (.string ((rd_T39 x3_1 x6_2).f0))∧w'.cell? ⟨(ad3.add ((x6_2).toNat*5)).block,(ad3.add ((x6_2).toNat*5)).off+1,none⟩=some (.string ((rd_T39 x3_1 x6_2).f1))∧w'.cell? ⟨(ad3.add ((x6_2).toNat*5)).block,(ad3.add ((x6_2).toNat*5)).off+2,none⟩=some (.int .i64 ((rd_T39 x3_1 x6_2).f2.f0))∧w'.cell? ⟨(ad3.add ((x6_2).toNat*5)).block,(ad3.add ((x6_2).toNat*5)).off+3,none⟩=some (.int .i64 ((rd_T39 x3_1 x6_2).f2.f1))∧w'.cell? ⟨(ad3.add ((x6_2).toNat*5)).block,(ad3.add ((x6_2).toNat*5)).off+4,none⟩=some (.int .i64 ((rd_T39 x3_1 x6_2).f2.f2))∧w'.cell? (ad3.add ((x6_2).toNat*5))=some (.string ((rd_T39 x3_1 x6_2).f0))∧w'.cell? ⟨(ad3.add ((x6_2).toNat*5)).block,(ad3.add ((x6_2).toNat*5)).off+1,none⟩=some (.string ((rd_T39 x3_1 x6_2).f1))∧w'.cell? ⟨(ad3.add ((x6_2).toNat*5)).block,(ad3.add ((x6_2).toNat*5)).off+2,none⟩=some (.int .i64 ((rd_T39 x3_1 x6_2).f2.f0))∧w'.cell? ⟨(ad3.add ((x6_2).toNat*5)).block,(ad3.add ((x6_2).toNat*5)).off+3,none⟩=some (.int .i64 ((rd_T39 x3_1 x6_2).f2.f1))∧w'.cell? ⟨(ad3.add ((x6_2).toNat*5)).block,(ad3.add ((x6_2).toNat*5)).off+4,none⟩=some (.int .i64 ((rd_T39 x3_1 x6_2).f2.f2))∧w'.cell? (ad3.add ((x6_2).toNat*5))=some (.string ((rd_T39 x3_1 x6_2).f0))∧w'.cell? ⟨(ad3.add ((x6_2).toNat*5)).block,(ad3.add ((x6_2).toNat*5)).off+1,none⟩=some (.string ((rd_T39 x3_1 x6_2).f1))∧w'.cell? ⟨(ad3.add ((x6_2).toNat*5)).block,(ad3.add ((x6_2).toNat*5)).off+2,none⟩=some (.int .i64 ((rd_T39 x3_1 x6_2).f2.f0))∧w'.cell? ⟨(ad3.add ((x6_2).toNat*5)).block,(ad3.add ((x6_2).toNat*5)).off+3,none⟩=some (.int .i64 ((rd_T39 x3_1 x6_2).f2.f1))∧w'.cell? ⟨(ad3.add ((x6_2).toNat*5)).block,(ad3.add ((x6_2).toNat*5)).off+4,none⟩=some (.int .i64 ((rd_T39 x3_1 x6_2).f2.f2))∧w'.cell? (ad1.add ((x4_1).toNat*5))=some (.string ((rd_T39 l0 x4_1).f0))∧w'.cell? ⟨(ad1.add ((x4_1).toNat*5)).block,(ad1.add ((x4_1).toNat*5)).off+1,none⟩=some (.string ((rd_T39 l0 x4_1).f1))∧w'.cell? ⟨(ad1.add ((x4_1).toNat*5)).block,(ad1.add ((x4_1).toNat*5)).off+2,none⟩=some (.int .i64 ((rd_T39 l0 x4_1).f2.f0))∧w'.cell? ⟨(ad1.add ((x4_1).toNat*5)).block,(ad1.add ((x4_1).toNat*5)).off+3,none⟩=some (.int .i64 ((rd_T39 l0 x4_1).f2.f1))∧w'.cell? ⟨(ad1.add ((x4_1).toNat*5)).block,(ad1.add ((x4_1).toNat*5)).off+4,none⟩=some (.int .i64 ((rd_T39 l0 x4_1).f2.f2))) (ds:=[]) (bt_ 39 0) (by kernel_rfl) rfl rfl ⟨hx3_0,hx3_1,hx3_2,hx3_3,hx3_4,hx5_0,hx5_1,hx5_2,hx5_3,hx5_4,hx7_0,hx7_1,hx7_2,hx7_3,hx7_4,(zx_ HB hw8_0:),(zx_ HB hw8_1:),(zx_ HB hw8_2:),(zx_ HB hw8_3:),(zx_ HB hw8_4:)⟩ (fun hHeld=> ?_);refine with_tabW r10_Top.tab7 r10_Top.bits7 (fun HT_ HW_=> ?_)
      generalize wr.drew=w16 at HO_3 HB hx3_0 hx3_1 hx3_2 hx3_3 hx3_4 hx5_0 hx5_1 hx5_2 hx5_3 hx5_4 hx7_0 hx7_1 hx7_2 hx7_3 hx7_4 hx8_0 hx8_1 hx8_2 hx8_3 hx8_4 hHeld ⊢
      refine pu_ (i:=0) (N:=some 21) (bt_ 39 1) HT_ ?_
      refine pu_ (i:=1) (N:=some 22) (bt_ 39 3) HT_ ?_
      refine pu_ (i:=2) (N:=some 23) (bt_ 39 7) HT_ ?_
      refine pu_ (i:=3) (N:=some 24) (bt_ 39 15) HT_ ?_
      refine pu_ (i:=4) (N:=some 25) (bt_ 39 31) HT_ ?_
      refine pu_ (i:=5) (N:=some 26) (bt_ 39 63) HT_ ?_
      refine pu_ (i:=6) (N:=some 27) (bt_ 39 127) HT_ ?_
      refine pu_ (i:=7) (N:=some 28) (bt_ 39 255) HT_ ?_
      refine pu_ (i:=8) (N:=some 29) (bt_ 39 511) HT_ ?_
      refine pu_ (i:=9) (N:=some 30) (bt_ 39 1023) HT_ ?_
      refine pu_ (i:=12) (N:=some 33) (bt_ 39 5119) HT_ ?_
      refine tk_ (i:=10) (N:=some 31) (bt_ 39 6143) HT_ HW_ hHeld ?_
      refine on_ (i:=11) (N:=some 32) (bt_ 39 8191) HT_ (fun K hK=> ?_)
      refine gs_ Try.func28 #[.slice (some ad1) l0.length c0, .string ((rd_T39 x3_1 x6_2).f0)] ?_
      with_reducible refine (r10_Depth.calls k2 _ _ l0 ((rd_T39 x3_1 x6_2).f0) t4 _ ?side1 ?side2 A7.out).mono ?_
      (case side1=>exact zc_ (Kd.C_below HR0.out HB.out))
      (case side2=>exact HC0.out)
      rintro e w' ⟨rfl,⟨nd,rfl⟩⟩
      refine ⟨_,rfl, ?_⟩
      refine hK.out _ _ ⟨hHeld.1,hHeld.2.1,hHeld.2.2.1,hHeld.2.2.2.1,hHeld.2.2.2.2.1,hHeld.2.2.2.2.2.1,hHeld.2.2.2.2.2.2.1,hHeld.2.2.2.2.2.2.2.1,hHeld.2.2.2.2.2.2.2.2.1,hHeld.2.2.2.2.2.2.2.2.2.1,hHeld.2.2.2.2.2.2.2.2.2.2.1,hHeld.2.2.2.2.2.2.2.2.2.2.2.1,hHeld.2.2.2.2.2.2.2.2.2.2.2.2.1,hHeld.2.2.2.2.2.2.2.2.2.2.2.2.2.1,hHeld.2.2.2.2.2.2.2.2.2.2.2.2.2.2.1,(zx_ HB hw8_0:),(zx_ HB hw8_1:),(zx_ HB hw8_2:),(zx_ HB hw8_3:),(zx_ HB hw8_4:)⟩ (fun hHeld=> ?_)
      clear hK K
      refine no_ (N:=some 32) ?_
      refine pu_ (i:=13) (N:=some 34) (bt_ 39 16383) HT_ ?_
      refine pu_ (i:=14) (N:=some 35) (bt_ 39 32767) HT_ ?_
      refine pu_ (i:=15) (N:=some 36) (bt_ 39 65535) HT_ ?_
      refine pu_ (i:=16) (N:=some 37) (bt_ 39 131071) HT_ ?_
      refine pu_ (i:=17) (N:=some 38) (bt_ 39 262143) HT_ ?_
      refine pu_ (i:=18) (N:=some 39) (bt_ 39 524287) HT_ ?_
      refine pu_ (i:=19) (N:=some 40) (bt_ 39 1048575) HT_ ?_
      refine pu_ (i:=22) (N:=some 43) (bt_ 39 5242879) HT_ ?_
      refine tk_ (i:=20) (N:=some 41) (bt_ 39 6291455) HT_ HW_ hHeld ?_
      refine on_ (i:=21) (N:=some 42) (bt_ 39 8388607) HT_ (fun K hK=> ?_)
      refine gs_ Try.func28 #[.slice (some ad1) l0.length c0, .string ((rd_T39 x3_1 x6_2).f0)] ?_
      with_reducible refine (r10_Depth.calls k2 _ _ l0 ((rd_T39 x3_1 x6_2).f0) t4 _ ?side1 ?side2 A11.out).mono ?_
      (case side1=>repeat (first|exact (Kd.C_below HR0.out (zl0_ HB))|(with_reducible refine Kd.C_alloc ?_ _)|(with_reducible refine Kd.C_drewN ?_ _)|(with_reducible refine Kd.C_drew ?_)))
      (case side2=>exact HC0.out)
      rintro e w' ⟨rfl,⟨nd,rfl⟩⟩
      refine ⟨_,rfl, ?_⟩
      refine hK.out _ _ ⟨hHeld.1,hHeld.2.1,hHeld.2.2.1,hHeld.2.2.2.1,hHeld.2.2.2.2.1,hHeld.2.2.2.2.2.1,hHeld.2.2.2.2.2.2.1,hHeld.2.2.2.2.2.2.2.1,hHeld.2.2.2.2.2.2.2.2.1,hHeld.2.2.2.2.2.2.2.2.2.1,hHeld.2.2.2.2.2.2.2.2.2.2.1,hHeld.2.2.2.2.2.2.2.2.2.2.2.1,hHeld.2.2.2.2.2.2.2.2.2.2.2.2.1,hHeld.2.2.2.2.2.2.2.2.2.2.2.2.2.1,hHeld.2.2.2.2.2.2.2.2.2.2.2.2.2.2.1,(zx_ HB hw8_0:),(zx_ HB hw8_1:),(zx_ HB hw8_2:),(zx_ HB hw8_3:),(zx_ HB hw8_4:)⟩ (fun hHeld=> ?_)
      clear hK K
      refine no_ (N:=some 42) ?_
      refine pu_ (i:=23) (N:=some 44) (bt_ 39 16777215) HT_ ?_
      refine pu_ (i:=24) (N:=some 45) (bt_ 39 33554431) HT_ ?_
      refine pu_ (i:=25) (N:=some 46) (bt_ 39 67108863) HT_ ?_
      refine pu_ (i:=26) (N:=some 47) (bt_ 39 134217727) HT_ ?_
      refine pu_ (i:=27) (N:=some 48) (bt_ 39 268435455) HT_ ?_
      refine pu_ (i:=28) (N:=some 49) (bt_ 39 536870911) HT_ ?_
      refine pu_ (i:=30) (N:=some 51) (bt_ 39 1610612735) HT_ ?_
      refine pu_ (i:=31) (N:=some 52) (bt_ 39 3758096383) HT_ ?_
      refine pu_ (i:=32) (N:=some 53) (bt_ 39 8053063679) HT_ ?_
      refine pu_ (i:=33) (N:=some 54) (bt_ 39 16642998271) HT_ ?_
      refine tk_ (i:=29) (N:=some 50) (bt_ 39 17179869183) HT_ HW_ hHeld ?_
      refine tk_ (i:=34) (N:=some 55) (bt_ 39 34359738367) HT_ HW_ hHeld ?_
      refine pu_ (i:=35) (N:=some 56) (bt_ 39 68719476735) HT_ ?_
      refine pu_ (i:=36) (N:=some 57) (bt_ 39 137438953471) HT_ ?_
      refine pu_ (i:=37) (N:=some 58) (bt_ 39 274877906943) HT_ ?_
      refine pu_ (i:=38) (N:=some 59) (bt_ 39 549755813887) HT_ ?_
      refine done_ (done_of HT_.out (by kernel_rfl)) ?_
      try go_wp2
      go_roundg k2
      case measure=>have:=HK1.out;have:=HK2.out;omega
      case rel=>exact ⟨(wrap64 (x6_2+1)),(by first|rfl|(simp;done)|(simp [*];done)),H',⟨by have:=HK1.out;have:=HK2.out;omega⟩,⟨by (with_reducible repeat (first|apply Kd.R_alloc|apply Kd.R_drewN|apply Kd.R_drew));exact HO_3.out⟩,⟨zl0_ HB⟩⟩
     rw [if_neg c15] at H
     have c15b0:(Op.bytesLess (((rd_T39 x3_1 x6_2).f0).toList) (((rd_T39 l0 x4_1).f0).toList))=false:=by simpa using c15
     clear c15
     obtain ⟨y9,hy9⟩: ∃y_:List (S39),y_=(([]:List (S39))):=⟨_,rfl⟩
     replace H:(if x6_2≤(x3_1.length:Int) then ((some (x3_1.take (x6_2:Int).toNat:List (S39))).bind fun y12=>(if y9.length+y12.length<2513169434916 then ((some (y9++y12:List (S39))).bind fun y16=>(if y16.length<2513169434916 then ((some (y16++ [(⟨(rd_T39 l0 x4_1).f0,(rd_T39 l0 x4_1).f1,(⟨(rd_T39 l0 x4_1).f2.f0,(rd_T39 l0 x4_1).f2.f1,(rd_T39 l0 x4_1).f2.f2⟩:S37)⟩:S39)]:List (S39))).bind fun y20=>((some (x3_1.drop (x6_2:Int).toNat:List (S39))).bind fun y23=>(if y20.length+y23.length<2513169434916 then (r10_Top.l0 k2 l0 (y20++y23) (wrap64 (x4_1+1))) else (none)))) else (none))) else (none))) else (none))=some r:=by first|(rw [hy9];with_reducible exact H)|(have H2_:=(Option.bind_some _ _).symm.trans H;rw [hy9];with_reducible exact H2_)|(have H2_:=(Option.bind_some _ _).symm.trans H;with_reducible exact H2_)|with_reducible exact H|(rw [hy9];exact H)|exact H
     have Ny9:=Aside0.mk hy9
     clear hy9
     have c18b0:=eq_true (of_decide_eq_true zq_:0≤x6_2)
     by_cases c19:x6_2≤(x3_1.length:Int)
     rotate_left
     ·rw [if_neg c19] at H
      exact absurd H (by simp)
     rw [if_pos c19] at H
     have c19b0:=eq_true c19
     have c19b1:decide (x6_2≤(x3_1.length:Int))=true:=decide_eq_true c19
     clear c19
     obtain ⟨y12,hy12⟩: ∃y_:List (S39),y_=(x3_1.take (x6_2:Int).toNat):=⟨_,rfl⟩
     replace H:(if y9.length+y12.length<2513169434916 then ((some (y9++y12:List (S39))).bind fun y16=>(if y16.length<2513169434916 then ((some (y16++ [(⟨(rd_T39 l0 x4_1).f0,(rd_T39 l0 x4_1).f1,(⟨(rd_T39 l0 x4_1).f2.f0,(rd_T39 l0 x4_1).f2.f1,(rd_T39 l0 x4_1).f2.f2⟩:S37)⟩:S39)]:List (S39))).bind fun y20=>((some (x3_1.drop (x6_2:Int).toNat:List (S39))).bind fun y23=>(if y20.length+y23.length<2513169434916 then (r10_Top.l0 k2 l0 (y20++y23) (wrap64 (x4_1+1))) else (none)))) else (none))) else (none))=some r:=by first|(rw [hy12];with_reducible exact H)|(have H2_:=(Option.bind_some _ _).symm.trans H;rw [hy12];with_reducible exact H2_)|(have H2_:=(Option.bind_some _ _).symm.trans H;with_reducible exact H2_)|with_reducible exact H|(rw [hy12];exact H)|exact H
     have Ny12:=Aside0.mk hy12
     clear hy12
     by_cases c20:y9.length+y12.length<2513169434916
     rotate_left
     ·rw [if_neg c20] at H
      exact absurd H (by simp)
     rw [if_pos c20] at H
     have LMc20:=Aside0.mk c20
     clear c20
     obtain ⟨y16,hy16⟩: ∃y_:List (S39),y_=(y9++y12):=⟨_,rfl⟩
     replace H:(if y16.length<2513169434916 then ((some (y16++ [(⟨(rd_T39 l0 x4_1).f0,(rd_T39 l0 x4_1).f1,(⟨(rd_T39 l0 x4_1).f2.f0,(rd_T39 l0 x4_1).f2.f1,(rd_T39 l0 x4_1).f2.f2⟩:S37)⟩:S39)]:List (S39))).bind fun y20=>((some (x3_1.drop (x6_2:Int).toNat:List (S39))).bind fun y23=>(if y20.length+y23.length<2513169434916 then (r10_Top.l0 k2 l0 (y20++y23) (wrap64 (x4_1+1))) else (none)))) else (none))=some r:=by first|(rw [hy16];with_reducible exact H)|(have H2_:=(Option.bind_some _ _).symm.trans H;rw [hy16];with_reducible exact H2_)|(have H2_:=(Option.bind_some _ _).symm.trans H;with_reducible exact H2_)|with_reducible exact H|(rw [hy16];exact H)|exact H
     have Ny16:=Aside0.mk hy16
     clear hy16
     by_cases c21:y16.length<2513169434916
     rotate_left
     ·rw [if_neg c21] at H
      exact absurd H (by simp)
     rw [if_pos c21] at H
     have LMc21:=Aside0.mk c21
     clear c21
     obtain ⟨y20,hy20⟩: ∃y_:List (S39),y_=(y16++ [(⟨(rd_T39 l0 x4_1).f0,(rd_T39 l0 x4_1).f1,(⟨(rd_T39 l0 x4_1).f2.f0,(rd_T39 l0 x4_1).f2.f1,(rd_T39 l0 x4_1).f2.f2⟩:S37)⟩:S39)]):=⟨_,rfl⟩
     replace H:((some (x3_1.drop (x6_2:Int).toNat:List (S39))).bind fun y23=>(if y20.length+y23.length<2513169434916 then (r10_Top.l0 k2 l0 (y20++y23) (wrap64 (x4_1+1))) else (none)))=some r:=by first|(rw [hy20];with_reducible exact H)|(have H2_:=(Option.bind_some _ _).symm.trans H;rw [hy20];with_reducible exact H2_)|(have H2_:=(Option.bind_some _ _).symm.trans H;with_reducible exact H2_)|with_reducible exact H|(rw [hy20];exact H)|exact H
     have Ny20:=Aside0.mk hy20
     clear hy20
     have c22b0:=eq_true (of_decide_eq_true zq_:0≤x6_2)
     have c23b0:=eq_true (of_decide_eq_true zq_:x6_2≤(x3_1.length:Int))
     obtain ⟨y23,hy23⟩: ∃y_:List (S39),y_=(x3_1.drop (x6_2:Int).toNat):=⟨_,rfl⟩
     replace H:(if y20.length+y23.length<2513169434916 then (r10_Top.l0 k2 l0 (y20++y23) (wrap64 (x4_1+1))) else (none))=some r:=by first|(rw [hy23];with_reducible exact H)|(have H2_:=(Option.bind_some _ _).symm.trans H;rw [hy23];with_reducible exact H2_)|(have H2_:=(Option.bind_some _ _).symm.trans H;with_reducible exact H2_)|with_reducible exact H|(rw [hy23];exact H)|exact H
     have Ny23:=Aside0.mk hy23
     clear hy23
     by_cases c24:y20.length+y23.length<2513169434916
     rotate_left
     ·rw [if_neg c24] at H
      exact absurd H (by simp)
     rw [if_pos c24] at H
     have LMc24:=Aside0.mk c24
     clear c24
     obtain ⟨y27,hy27⟩: ∃y_:List (S39),y_=(y20++y23):=⟨_,rfl⟩
     replace H:(r10_Top.l0 k2 l0 y27 (wrap64 (x4_1+1)))=some r:=by first|(rw [hy27];with_reducible exact H)|(have H2_:=(Option.bind_some _ _).symm.trans H;rw [hy27];with_reducible exact H2_)|(have H2_:=(Option.bind_some _ _).symm.trans H;with_reducible exact H2_)|with_reducible exact H|(rw [hy27];exact H)|exact H
     have Ny27:=Aside0.mk hy27
     clear hy27
     have H':=Aside0.mk H
     clear H
     try go_wp2
     replace HO_3:=am_ (Kd.R_drew HO_3.out)
     replace HB:=am_ (below_drew1 HB.out)
     obtain ⟨Ao26,co26,eo26⟩:=Kd.R_slice HO_3.out
     (first|subst eo26|(injection eo26 with f1_ f2_ f3_;have f4_:=f1_.symm;have f5_:=f3_.symm;clear f1_ f2_ f3_;subst f4_;subst f5_))
     have p3:0≤(x6_2:Int):=of_decide_eq_true zq_
     have q3:x6_2<(x3_1.length:Int):=of_decide_eq_true zq_
     obtain ⟨ad3,e3,hx3_0,hx3_1,hx3_2,hx3_3,hx3_4⟩:=at_T39 (Kd.R_reads' HO_3.out).2.2 x6_2 p3 q3
     cases e3
     replace p3:=eq_true p3
     replace q3:=eq_true q3
     have p5:0≤(x6_2:Int):=of_decide_eq_true zq_
     have q5:x6_2<(x3_1.length:Int):=of_decide_eq_true zq_
     obtain ⟨ad5,e5,hx5_0,hx5_1,hx5_2,hx5_3,hx5_4⟩:=at_T39 (Kd.R_reads' HO_3.out).2.2 x6_2 p5 q5
     obtain rfl:ad3=ad5:=(by injection e5)
     replace p5:=eq_true p5
     replace q5:=eq_true q5
     have p7:0≤(x6_2:Int):=of_decide_eq_true zq_
     have q7:x6_2<(x3_1.length:Int):=of_decide_eq_true zq_
     obtain ⟨ad7,e7,hx7_0,hx7_1,hx7_2,hx7_3,hx7_4⟩:=at_T39 (Kd.R_reads' HO_3.out).2.2 x6_2 p7 q7
     obtain rfl:ad3=ad7:=(by injection e7)
     replace p7:=eq_true p7
     replace q7:=eq_true q7
     have p8:0≤(x4_1:Int):=of_decide_eq_true zq_
     have q8:x4_1<(l0.length:Int):=of_decide_eq_true zq_
     obtain ⟨ad8,e8,hx8_0,hx8_1,hx8_2,hx8_3,hx8_4⟩:=at_T39 HR0.out x4_1 p8 q8
     have hw8_4:=hx8_4
     have hw8_3:=hx8_3
     have hw8_2:=hx8_2
     have hw8_1:=hx8_1
     have hw8_0:=hx8_0
     obtain rfl:ad1=ad8:=(by injection e8)
     replace hx8_0:=zx_ HB hx8_0
     replace hx8_1:=zx_ HB hx8_1
     replace hx8_2:=zx_ HB hx8_2
     replace hx8_3:=zx_ HB hx8_3
     replace hx8_4:=zx_ HB hx8_4
     replace p8:=eq_true p8
     replace q8:=eq_true q8
     refine start_ (n:=39) (S:=fun w'=>w'.cell? (ad3.add ((x6_2).toNat*5))=some (.string ((rd_T39 x3_1 x6_2).f0))∧w'.cell? ⟨(ad3.add ((x6_2).toNat*5)).block,(ad3.add ((x6_2).toNat*5)).off+1,none⟩=some (.string ((rd_T39 x3_1 x6_2).f1))∧w'.cell? ⟨(ad3.add ((x6_2).toNat*5)).block,(ad3.add ((x6_2).toNat*5)).off+2,none⟩=some (.int .i64 ((rd_T39 x3_1 x6_2).f2.f0))∧w'.cell? ⟨(ad3.add ((x6_2).toNat*5)).block,(ad3.add ((x6_2).toNat*5)).off+3,none⟩=some (.int .i64 ((rd_T39 x3_1 x6_2).f2.f1))∧w'.cell? ⟨(ad3.add ((x6_2).toNat*5)).block,(ad3.add ((x6_2).toNat*5)).off+4,none⟩=some (.int .i64 ((rd_T39 x3_1 x6_2).f2.f2))∧w'.cell? (ad3.add ((x6_2).toNat*5))=some (.string ((rd_T39 x3_1 x6_2).f0))∧w'.cell? ⟨(ad3.add ((x6_2).toNat*5)).block,(ad3.add ((x6_2).toNat*5)).off+1,none⟩=some (.string ((rd_T39 x3_1 x6_2).f1))∧w'.cell? ⟨(ad3.add ((x6_2).toNat*5)).block,(ad3.add ((x6_2).toNat*5)).off+2,none⟩=some (.int .i64 ((rd_T39 x3_1 x6_2).f2.f0))∧w'.cell? ⟨(ad3.add ((x6_2).toNat*5)).block,(ad3.add ((x6_2).toNat*5)).off+3,none⟩=some (.int .i64 ((rd_T39 x3_1 x6_2).f2.f1))∧w'.cell? ⟨(ad3.add ((x6_2).toNat*5)).block,(ad3.add ((x6_2).toNat*5)).off+4,none⟩=some (.int .i64 ((rd_T39 x3_1 x6_2).f2.f2))∧w'.cell? (ad3.add ((x6_2).toNat*5))=some (.string ((rd_T39 x3_1 x6_2).f0))∧w'.cell? ⟨(ad3.add ((x6_2).toNat*5)).block,(ad3.add ((x6_2).toNat*5)).off+1,none⟩=some (.string ((rd_T39 x3_1 x6_2).f1))∧w'.cell? ⟨(ad3.add ((x6_2).toNat*5)).block,(ad3.add ((x6_2).toNat*5)).off+2,none⟩=some (.int .i64 ((rd_T39 x3_1 x6_2).f2.f0))∧w'.cell? ⟨(ad3.add ((x6_2).toNat*5)).block,(ad3.add ((x6_2).toNat*5)).off+3,none⟩=some (.int .i64 ((rd_T39 x3_1 x6_2).f2.f1))∧w'.cell? ⟨(ad3.add ((x6_2).toNat*5)).block,(ad3.add ((x6_2).toNat*5)).off+4,none⟩=some (.int .i64 ((rd_T39 x3_1 x6_2).f2.f2))∧w'.cell? (ad1.add ((x4_1).toNat*5))=some (.string ((rd_T39 l0 x4_1).f0))∧w'.cell? ⟨(ad1.add ((x4_1).toNat*5)).block,(ad1.add ((x4_1).toNat*5)).off+1,none⟩=some (.string ((rd_T39 l0 x4_1).f1))∧w'.cell? ⟨(ad1.add ((x4_1).toNat*5)).block,(ad1.add ((x4_1).toNat*5)).off+2,none⟩=some (.int .i64 ((rd_T39 l0 x4_1).f2.f0))∧w'.cell? ⟨(ad1.add ((x4_1).toNat*5)).block,(ad1.add ((x4_1).toNat*5)).off+3,none⟩=some (.int .i64 ((rd_T39 l0 x4_1).f2.f1))∧w'.cell? ⟨(ad1.add ((x4_1).toNat*5)).block,(ad1.add ((x4_1).toNat*5)).off+4,none⟩=some (.int .i64 ((rd_T39 l0 x4_1).f2.f2))) (ds:=[]) (bt_ 39 0) (by kernel_rfl) rfl rfl ⟨hx3_0,hx3_1,hx3_2,hx3_3,hx3_4,hx5_0,hx5_1,hx5_2,hx5_3,hx5_4,hx7_0,hx7_1,hx7_2,hx7_3,hx7_4,(zx_ HB hw8_0:),(zx_ HB hw8_1:),(zx_ HB hw8_2:),(zx_ HB hw8_3:),(zx_ HB hw8_4:)⟩ (fun hHeld=> ?_);refine with_tabW r10_Top.tab7 r10_Top.bits7 (fun HT_ HW_=> ?_)
     generalize wr.drew=w25 at HO_3 HB hx3_0 hx3_1 hx3_2 hx3_3 hx3_4 hx5_0 hx5_1 hx5_2 hx5_3 hx5_4 hx7_0 hx7_1 hx7_2 hx7_3 hx7_4 hx8_0 hx8_1 hx8_2 hx8_3 hx8_4 hHeld ⊢
     refine pu_ (i:=0) (N:=some 21) (bt_ 39 1) HT_ ?_
     refine pu_ (i:=1) (N:=some 22) (bt_ 39 3) HT_ ?_
     refine pu_ (i:=2) (N:=some 23) (bt_ 39 7) HT_ ?_
     refine pu_ (i:=3) (N:=some 24) (bt_ 39 15) HT_ ?_
     refine pu_ (i:=4) (N:=some 25) (bt_ 39 31) HT_ ?_
     refine pu_ (i:=5) (N:=some 26) (bt_ 39 63) HT_ ?_
     refine pu_ (i:=6) (N:=some 27) (bt_ 39 127) HT_ ?_
     refine pu_ (i:=7) (N:=some 28) (bt_ 39 255) HT_ ?_
     refine pu_ (i:=8) (N:=some 29) (bt_ 39 511) HT_ ?_
     refine pu_ (i:=9) (N:=some 30) (bt_ 39 1023) HT_ ?_
     refine pu_ (i:=12) (N:=some 33) (bt_ 39 5119) HT_ ?_
     refine tk_ (i:=10) (N:=some 31) (bt_ 39 6143) HT_ HW_ hHeld ?_
     refine on_ (i:=11) (N:=some 32) (bt_ 39 8191) HT_ (fun K hK=> ?_)
     refine gs_ Try.func28 #[.slice (some ad1) l0.length c0, .string ((rd_T39 x3_1 x6_2).f0)] ?_
     with_reducible refine (r10_Depth.calls k2 _ _ l0 ((rd_T39 x3_1 x6_2).f0) t4 _ ?side1 ?side2 A7.out).mono ?_
     (case side1=>exact zc_ (Kd.C_below HR0.out HB.out))
     (case side2=>exact HC0.out)
     rintro e w' ⟨rfl,⟨nd,rfl⟩⟩
     refine ⟨_,rfl, ?_⟩
     refine hK.out _ _ ⟨hHeld.1,hHeld.2.1,hHeld.2.2.1,hHeld.2.2.2.1,hHeld.2.2.2.2.1,hHeld.2.2.2.2.2.1,hHeld.2.2.2.2.2.2.1,hHeld.2.2.2.2.2.2.2.1,hHeld.2.2.2.2.2.2.2.2.1,hHeld.2.2.2.2.2.2.2.2.2.1,hHeld.2.2.2.2.2.2.2.2.2.2.1,hHeld.2.2.2.2.2.2.2.2.2.2.2.1,hHeld.2.2.2.2.2.2.2.2.2.2.2.2.1,hHeld.2.2.2.2.2.2.2.2.2.2.2.2.2.1,hHeld.2.2.2.2.2.2.2.2.2.2.2.2.2.2.1,(zx_ HB hw8_0:),(zx_ HB hw8_1:),(zx_ HB hw8_2:),(zx_ HB hw8_3:),(zx_ HB hw8_4:)⟩ (fun hHeld=> ?_)
     clear hK K
     refine no_ (N:=some 32) ?_
     refine pu_ (i:=13) (N:=some 34) (bt_ 39 16383) HT_ ?_
     refine pu_ (i:=14) (N:=some 35) (bt_ 39 32767) HT_ ?_
     refine pu_ (i:=15) (N:=some 36) (bt_ 39 65535) HT_ ?_
     refine pu_ (i:=16) (N:=some 37) (bt_ 39 131071) HT_ ?_
     refine pu_ (i:=17) (N:=some 38) (bt_ 39 262143) HT_ ?_
     refine pu_ (i:=18) (N:=some 39) (bt_ 39 524287) HT_ ?_
     refine pu_ (i:=19) (N:=some 40) (bt_ 39 1048575) HT_ ?_
     refine pu_ (i:=22) (N:=some 43) (bt_ 39 5242879) HT_ ?_
     refine tk_ (i:=20) (N:=some 41) (bt_ 39 6291455) HT_ HW_ hHeld ?_
     refine on_ (i:=21) (N:=some 42) (bt_ 39 8388607) HT_ (fun K hK=> ?_)
     refine gs_ Try.func28 #[.slice (some ad1) l0.length c0, .string ((rd_T39 x3_1 x6_2).f0)] ?_
     with_reducible refine (r10_Depth.calls k2 _ _ l0 ((rd_T39 x3_1 x6_2).f0) t4 _ ?side1 ?side2 A11.out).mono ?_
     (case side1=>repeat (first|exact (Kd.C_below HR0.out (zl0_ HB))|(with_reducible refine Kd.C_alloc ?_ _)|(with_reducible refine Kd.C_drewN ?_ _)|(with_reducible refine Kd.C_drew ?_)))
     (case side2=>exact HC0.out)
     rintro e w' ⟨rfl,⟨nd,rfl⟩⟩
     refine ⟨_,rfl, ?_⟩
     refine hK.out _ _ ⟨hHeld.1,hHeld.2.1,hHeld.2.2.1,hHeld.2.2.2.1,hHeld.2.2.2.2.1,hHeld.2.2.2.2.2.1,hHeld.2.2.2.2.2.2.1,hHeld.2.2.2.2.2.2.2.1,hHeld.2.2.2.2.2.2.2.2.1,hHeld.2.2.2.2.2.2.2.2.2.1,hHeld.2.2.2.2.2.2.2.2.2.2.1,hHeld.2.2.2.2.2.2.2.2.2.2.2.1,hHeld.2.2.2.2.2.2.2.2.2.2.2.2.1,hHeld.2.2.2.2.2.2.2.2.2.2.2.2.2.1,hHeld.2.2.2.2.2.2.2.2.2.2.2.2.2.2.1,(zx_ HB hw8_0:),(zx_ HB hw8_1:),(zx_ HB hw8_2:),(zx_ HB hw8_3:),(zx_ HB hw8_4:)⟩ (fun hHeld=> ?_)
     clear hK K
     refine no_ (N:=some 42) ?_
     refine pu_ (i:=23) (N:=some 44) (bt_ 39 16777215) HT_ ?_
     refine pu_ (i:=24) (N:=some 45) (bt_ 39 33554431) HT_ ?_
     refine pu_ (i:=25) (N:=some 46) (bt_ 39 67108863) HT_ ?_
     refine pu_ (i:=26) (N:=some 47) (bt_ 39 134217727) HT_ ?_
     refine pu_ (i:=27) (N:=some 48) (bt_ 39 268435455) HT_ ?_
     refine pu_ (i:=28) (N:=some 49) (bt_ 39 536870911) HT_ ?_
     refine pu_ (i:=30) (N:=some 51) (bt_ 39 1610612735) HT_ ?_
     refine pu_ (i:=31) (N:=some 52) (bt_ 39 3758096383) HT_ ?_
     refine pu_ (i:=32) (N:=some 53) (bt_ 39 8053063679) HT_ ?_
     refine pu_ (i:=33) (N:=some 54) (bt_ 39 16642998271) HT_ ?_
     refine tk_ (i:=29) (N:=some 50) (bt_ 39 17179869183) HT_ HW_ hHeld ?_
     refine tk_ (i:=34) (N:=some 55) (bt_ 39 34359738367) HT_ HW_ hHeld ?_
     refine pu_ (i:=35) (N:=some 56) (bt_ 39 68719476735) HT_ ?_
     refine pu_ (i:=36) (N:=some 57) (bt_ 39 137438953471) HT_ ?_
     refine pu_ (i:=37) (N:=some 58) (bt_ 39 274877906943) HT_ ?_
     refine pu_ (i:=38) (N:=some 59) (bt_ 39 549755813887) HT_ ?_
     refine done_ (done_of HT_.out (by kernel_rfl)) ?_
     try go_wp2_with (first|((with_reducible refine gate_dst (N:=62) rfl ?_);refine Kd.R_lit k39 _ 39 ?hg (N:=62) ?hd (xs:=([]:List (S39))) (inner:=[]) (ok:=fun _=>True) (okp:=fun _=>True) ?hr ?hp (fun _ hk=>hk) trivial (Below.refl _ _) (Nat.le_refl _) (by simp) ?_;(case hd=>rfl);(case hg=>rfl);(case hr=>first|(go_simp;done)|(go_simp;rfl));(case hp=>exact (Reps.none _ _));intro v10 w27 ho28 hb hg_ hnew_;clear hg_ hnew_;(first|rw [←Ny9.out] at ho28|(simp only [Int.reduceToNat] at ho28;rw [←Ny9.out] at ho28));have HO11:=am_ (Kd.R_lower (Kd.R_new' ho28 (Kd.R_lt (zr_ HO_3))) (below_size (zl0_ HB)));replace HO_3:=am_ (Kd.R_elder' (zr_ HO_3) (Kd.R_base ho28) hb);replace HB:=am_ (below_step (zl0_ HB) hb);clear hb ho28;have q29:(x6_2:Int)≤((x3_1.length:Int):Int):=of_decide_eq_true zq_;obtain ⟨i029,hi029,_,hsz29,_⟩:=info_parts info39;have hroom29:x3_1.length≤co26:=(Kd.R_reads' HO_3.out).2.1;have hC29:Kd.C k39 _ (some ad3) x3_1.length x3_1:=(Kd.R_reads' HO_3.out).2.2;have hcut29:=cut_to (P:=Try.prog) 22 39 .i64 Try.underlying22 hi029 (some ad3) x3_1.length co26 x6_2 (of_decide_eq_true zq_) q29 hroom29;have hr29:=Kd.C_take (m:=(x6_2:Int).toNat) hC29 (by omega);have hy29:y12.length=(x6_2:Int).toNat:=(by rw [Ny12.out,List.length_take];omega);rw [←Ny12.out] at hr29;rw [←hy29] at hcut29;have HR15:=Aside0.mk hr29;have HC15:=am_ (show y12.length≤co26 from by omega);clear hr29 hC29 hroom29 hi029 hsz29;have KY29:=Aside0.mk hy29;clear hy29;have KL29:=am_ (show (x6_2:Int).toNat≤x3_1.length from by omega);replace q29:=eq_true q29)|((with_reducible refine gate_builtin (b:= .append) (xs:=#[.tmp 62, .tmp 65]) rfl ?_);at_builtin;refine Kd.R_append_rows k39 (w0:=w) w.heap.size rfl (.tmp 62) (.tmp 65) 22 39 (.agg #[(.string ⟨#[]⟩),(.string ⟨#[]⟩),(.int .i64 0),(.int .i64 0),(.int .i64 0)]) 56 rfl Try.underlying22 info39 rfl (by decide) (by omega) v10 y9 y12 _ _ _ (fun k_=>some k_≠(.slice (some ad3) x3_1.length co26:Value).ownBlock) (fun _=>False) rfl rfl ?aO ?aR (fun _ _ h=>h) (fun _ h=>h.elim) ?aF ?aB ?aS ?aL ?_;(case aR=>repeat (first|exact (by repeat (first|(with_reducible exact HR15.out)|(with_reducible refine Kd.C_alloc ?_ _)|(with_reducible refine Kd.C_drewN ?_ _)|(with_reducible refine Kd.C_drew ?_)|exact HR15.out))|(with_reducible refine Kd.C_alloc ?_ _)|(with_reducible refine Kd.C_drewN ?_ _)|(with_reducible refine Kd.C_drew ?_)));(case aB=>exact (zl0_ HB));(case aF=>exact (fun k_ hk=>Kd.fresh' (Kd.R_lt (zr_ HO_3)) k_ hk));(case aO=>exact (by refine zt_ ?_;exact Kd.R_mono HO11.out (fun _ hk=>hk.2)));(case aS=>exact (below_size (zl0_ HB)));(case aL=>have:=LMc20.out;omega);intro v17 w30 ho hb hg hat;rw [←Ny16.out] at ho;have n0_:=am_ (Kd.R_after (ok:=(fun _=>True)) (zr_ HO_3) hg hat);have n1_:=am_ (hb);have n2_:=am_ ((show Kd.C k39 w30 (some ad3) y12.length y12 from by rw [Ny12.out];exact Kd.C_take (m:=(x6_2:Int).toNat) ((Kd.R_reads' (Kd.R_after (ok:=(fun _=>True)) (zr_ HO_3) hg hat)).2.2) KL29.out));have n3_:=am_ (ho);clear HO_3;clear HB;clear HR15;clear HO11;have HO_3:=n0_;have HB:=n1_;have HR15:=n2_;have HO18:=n3_;clear n0_ n1_ n2_ n3_;clear ho hb hg hat;have p19:0≤(x4_1:Int):=of_decide_eq_true zq_;have q19:x4_1<(l0.length:Int):=of_decide_eq_true zq_;obtain ⟨ad19,e19,hx19_0,hx19_1,hx19_2,hx19_3,hx19_4⟩:=at_T39 HR0.out x4_1 p19 q19;obtain rfl:ad1=ad19:=(by injection e19);replace hx19_0:=zx_ HB hx19_0;replace hx19_1:=zx_ HB hx19_1;replace hx19_2:=zx_ HB hx19_2;replace hx19_3:=zx_ HB hx19_3;replace hx19_4:=zx_ HB hx19_4;replace p19:=eq_true p19;replace q19:=eq_true q19)|((with_reducible refine gate_builtin (b:= .append) (xs:=#[.tmp 67, .tmp 72]) rfl ?_);at_builtin;refine Kd.R_append k39 (w0:=w) w.heap.size rfl (.tmp 67) (.tmp 72) 22 39 (.agg #[(.string ⟨#[]⟩),(.string ⟨#[]⟩),(.int .i64 0),(.int .i64 0),(.int .i64 0)]) 56 rfl Try.underlying22 info39 rfl (by decide) (by omega) v17 y16 (⟨(rd_T39 l0 x4_1).f0,(rd_T39 l0 x4_1).f1,(⟨(rd_T39 l0 x4_1).f2.f0,(rd_T39 l0 x4_1).f2.f1,(rd_T39 l0 x4_1).f2.f2⟩:S37)⟩:S39) [.string ((rd_T39 l0 x4_1).f0), .string ((rd_T39 l0 x4_1).f1), .int .i64 ((rd_T39 l0 x4_1).f2.f0), .int .i64 ((rd_T39 l0 x4_1).f2.f1), .int .i64 ((rd_T39 l0 x4_1).f2.f2)] (fun k_=>some k_≠(.slice (some ad3) x3_1.length co26:Value).ownBlock) (fun _=>False) rfl rfl ?aP (fun _ hk=>hk.elim) ?aF ?aO ?aB ?aS ?aL ?_;(case aP=>exact k39_mkM _ _ _ (⟨(rd_T39 l0 x4_1).f0,(rd_T39 l0 x4_1).f1,(⟨(rd_T39 l0 x4_1).f2.f0,(rd_T39 l0 x4_1).f2.f1,(rd_T39 l0 x4_1).f2.f2⟩:S37)⟩:S39));(case aB=>exact (zl0_ HB));(case aF=>exact (fun k_ hk=>Kd.fresh' (Kd.R_lt (zr_ HO_3)) k_ hk));(case aO=>exact (zr_ HO18));(case aS=>exact (below_size (zl0_ HB)));(case aL=>have:=LMc21.out;omega);intro v21 w31 ho hb hg hat;rw [←Ny20.out] at ho;have n0_:=am_ (Kd.R_after (ok:=(fun _=>True)) (zr_ HO_3) hg hat);have n1_:=am_ (hb);have n2_:=am_ ((show Kd.C k39 w31 (some ad3) y12.length y12 from by rw [Ny12.out];exact Kd.C_take (m:=(x6_2:Int).toNat) ((Kd.R_reads' (Kd.R_after (ok:=(fun _=>True)) (zr_ HO_3) hg hat)).2.2) KL29.out));have n3_:=am_ (ho);clear HO_3;clear HB;clear HR15;clear HO18;have HO_3:=n0_;have HB:=n1_;have HR15:=n2_;have HO22:=n3_;clear n0_ n1_ n2_ n3_;clear ho hb hg hat;have q32:(x6_2:Int)≤((x3_1.length:Int):Int):=of_decide_eq_true zq_;obtain ⟨i032,hi032,_,hsz32,_⟩:=info_parts info39;have hroom32:x3_1.length≤co26:=(Kd.R_reads' HO_3.out).2.1;have hC32:Kd.C k39 _ (some ad3) x3_1.length x3_1:=(Kd.R_reads' HO_3.out).2.2;have q032:(0:Int)≤(x6_2:Int):=of_decide_eq_true zq_;have hcut32:=cut_from (P:=Try.prog) 22 39 .i64 Try.underlying22 hi032 5 hsz32 (some ad3) x3_1.length co26 x6_2 q032 q32;have hr32:=Kd.C_drop (m:=(x6_2:Int).toNat) (c:=co26) hC32 (by omega) hroom32;obtain ⟨A32,hA32⟩: ∃A1,A1=(if co26=(x6_2:Int).toNat then (some ad3) else ((some ad3):Option Addr).map (·.add ((x6_2:Int).toNat*5))):=⟨_,rfl⟩;obtain ⟨c32,hc32⟩: ∃c1,c1=co26 - (x6_2:Int).toNat:=⟨_,rfl⟩;have hy32:y23.length=x3_1.length - (x6_2:Int).toNat:=(by rw [Ny23.out,List.length_drop]<;>omega);rw [show (x3_1).drop (x6_2:Int).toNat=y23 from Ny23.out.symm] at hr32;replace hr32:Kd.C k39 _ A32 y23.length y23:=(by rw [hA32];exact hr32);rw [←hy32,←hA32,←hc32] at hcut32;have HR26:=Aside0.mk hr32;have HC26:=am_ (show y23.length≤c32 from by rw [hy32,hc32];exact Nat.sub_le_sub_right hroom32 _);clear hr32 hC32 hroom32 hi032 hsz32 hc32;have KY32:=Aside0.mk hy32;have KA32:=Aside0.mk hA32;clear hy32 hA32;have KL32:=am_ (show (x6_2:Int).toNat≤x3_1.length from by omega);replace q32:=eq_true q32)|((with_reducible refine gate_builtin (b:= .append) (xs:=#[.tmp 74, .tmp 77]) rfl ?_);at_builtin;refine Kd.R_append_rows k39 (w0:=w) w.heap.size rfl (.tmp 74) (.tmp 77) 22 39 (.agg #[(.string ⟨#[]⟩),(.string ⟨#[]⟩),(.int .i64 0),(.int .i64 0),(.int .i64 0)]) 56 rfl Try.underlying22 info39 rfl (by decide) (by omega) v21 y20 y23 _ _ _ (fun k_=>some k_≠(.slice (some ad3) x3_1.length co26:Value).ownBlock) (fun _=>False) rfl rfl ?aO ?aR (fun _ _ h=>h) (fun _ h=>h.elim) ?aF ?aB ?aS ?aL ?_;(case aR=>repeat (first|exact (by repeat (first|(with_reducible exact HR26.out)|(with_reducible refine Kd.C_alloc ?_ _)|(with_reducible refine Kd.C_drewN ?_ _)|(with_reducible refine Kd.C_drew ?_)|exact HR26.out))|(with_reducible refine Kd.C_alloc ?_ _)|(with_reducible refine Kd.C_drewN ?_ _)|(with_reducible refine Kd.C_drew ?_)));(case aB=>exact (zl0_ HB));(case aF=>exact (fun k_ hk=>Kd.fresh' (Kd.R_lt (zr_ HO_3)) k_ hk));(case aO=>exact (zr_ HO22));(case aS=>exact (below_size (zl0_ HB)));(case aL=>have:=LMc24.out;omega);intro v28 w33 ho hb hg hat;rw [←Ny27.out] at ho;have n0_:=am_ (Kd.R_after (ok:=(fun _=>True)) (zr_ HO_3) hg hat);have n1_:=am_ (hb);have n2_:=am_ ((show Kd.C k39 w33 (some ad3) y12.length y12 from by rw [Ny12.out];exact Kd.C_take (m:=(x6_2:Int).toNat) ((Kd.R_reads' (Kd.R_after (ok:=(fun _=>True)) (zr_ HO_3) hg hat)).2.2) KL29.out));have n3_:=am_ ((show Kd.C k39 w33 A32 y23.length y23 from by rw [Ny23.out,KA32.out];exact Kd.C_drop (m:=(x6_2:Int).toNat) (c:=co26) ((Kd.R_reads' (Kd.R_after (ok:=(fun _=>True)) (zr_ HO_3) hg hat)).2.2) KL32.out ((Kd.R_reads' (Kd.R_after (ok:=(fun _=>True)) (zr_ HO_3) hg hat)).2.1)));have n4_:=am_ (ho);clear HO_3;clear HB;clear HR15;clear HR26;clear HO22;have HO_3:=n0_;have HB:=n1_;have HR15:=n2_;have HR26:=n3_;have HO29:=n4_;clear n0_ n1_ n2_ n3_ n4_;clear ho hb hg hat))
     go_roundg k2
     case measure=>have:=HK1.out;have:=HK2.out;omega
     case rel=>exact ⟨(y27),(wrap64 (x4_1+1)),(by first|rfl|(simp;done)|(simp [*];done)),H',⟨by have:=HK1.out;have:=HK2.out;omega⟩,⟨by (with_reducible repeat (first|apply Kd.R_alloc|apply Kd.R_drewN|apply Kd.R_drew));exact Kd.R_mono HO29.out (fun _ hk=>trivial)⟩,⟨zl0_ HB⟩⟩
end Go.Proofs.Ytahidkjncljkaaa.Print

namespace Go.Proofs.Ytahidkjncljkaaa.Print
open Go.RowKit Go.Proofs.YtahidkjncljkaaaW.PrintWords Go.Proofs.YtahidkjncljkaaaW.PrintLast
def bef (l:List Want) (a b:Want):Bool:=decide (depR l a.f0<depR l b.f0)||(decide (depR l a.f0=depR l b.f0) && lt a.f0 b.f0)
def insT (l:List Want) (w:Want) (out:List Want):List Want:=out.takeWhile (fun a=>bef l a w)++w::out.dropWhile (fun a=>bef l a w)
def topGo (l:List Want) (out:List Want):List Want→List Want
 |[]=>out
 |w::ws=>topGo l (insT l w out) ws
def topR (l:List Want):List Want:=topGo l [] l
theorem len_insT (l:List Want) (w:Want) (out:List Want):(insT l w out).length=out.length+1:=by
 unfold insT
 have:=congrArg List.length (List.takeWhile_append_dropWhile (p:=fun a=>bef l a w) (l:=out))
 rw [List.length_append] at this
 rw [List.length_append,List.length_cons]
 omega
theorem while_at {α:Type} {p:α→Bool}: ∀{out:List α} {j:Nat},j≤out.length→(∀m (h:m<out.length),m<j→p out[m]=true)→(∀h:j<out.length,p out[j]=false)→out.takeWhile p=out.take j∧out.dropWhile p=out.drop j
  |[],0,_,_,_=>⟨rfl,rfl⟩
  |[],j+1,h,_,_=>by simp at h
  | x :: out, 0, _, _, h => by
    have q:=h (by simp)
    rw [List.getElem_cons_zero] at q
    rw [List.takeWhile_cons,List.dropWhile_cons,q]
    exact ⟨rfl,rfl⟩
  | x :: out, j + 1, hj, h1, h2 => by
    have q:=h1 0 (by simp) (by omega)
    rw [List.getElem_cons_zero] at q
    rw [List.takeWhile_cons,List.dropWhile_cons,q]
    obtain ⟨a,b⟩:=while_at (p:=p) (out:=out) (j:=j) (by simpa using hj) (fun m h hm=>by have:=h1 (m+1) (by simpa using h) (by omega);simpa using this) (fun h=>by have:=h2 (by simpa using h);simpa using this)
    simp [a,b]
theorem top_put {l out:List Want} (hl:l.length≤1000) (ho:out.length≤1000) {i:Nat} (hi:i<l.length) {j:Nat} (hj:j≤out.length) {r:List Want} (hr:Ev (fun k=>r10_Top.l0 k l (insT l l[i] out) ((i+1:Nat):Int)) r)
  (h1: ∀m (h:m<out.length),m<j→bef l out[m] l[i]=true) (h2: ∀h:j<out.length,bef l out[j] l[i]=false):Ev (fun k=>r10_Top.l0 k l ((([]++out.take j)++ [l[i]])++out.drop j) ((i+1:Nat):Int)) r:=by
 obtain ⟨a,b⟩:=while_at (p:=fun a=>bef l a l[i]) hj h1 h2
 unfold insT at hr
 rw [a,b] at hr
 rw [List.nil_append,List.append_assoc,List.singleton_append]
 exact hr
theorem top_l1 {l out:List Want} (hl:l.length≤1000) (ho:out.length≤1000) {i:Nat} (hi:i<l.length) {r:List Want} (hr:Ev (fun k=>r10_Top.l0 k l (insT l l[i] out) ((i+1:Nat):Int)) r):
    ∀(d j:Nat),out.length - j=d→j≤out.length→(∀m (h:m<out.length),m<j→bef l out[m] l[i]=true)→Ev (fun k=>r10_Top.l1 k l out (i:Int) (depR l l[i].f0) (j:Int)) r
  | 0, j, hd, hj, h1 => by
    refine Ev.step (fun k=>r10_Top.l1.eq_2 (k:=k) ..) ?_
    rw [rd_wantN l hi,nx64 hi (by omega),Int.toNat_natCast]
    have lt1:([]++out.take j).length≤1000:=by rw [List.nil_append,List.length_take];omega
    have lt2:(out.drop j).length≤1000:=by rw [List.length_drop];omega
    refine Ev.congr (fun k=>by rw [if_neg (by omega),Option.bind_some,if_pos (by omega),if_pos (by omega),Option.bind_some,if_pos (by rw [List.length_nil,List.length_take];omega),Option.bind_some,if_pos (by omega),if_pos (by omega),if_pos (by omega),Option.bind_some,Option.bind_some,if_pos (by rw [List.length_append,List.length_singleton];omega)]) ?_
    exact top_put hl ho hi hj hr h1 (fun h=>by omega)
  | d + 1, j, hd, hj, h1 => by
    have hlt:j<out.length:=by omega
    have lt1:([]++out.take j).length≤1000:=by rw [List.nil_append,List.length_take];omega
    have lt2:(out.drop j).length≤1000:=by rw [List.length_drop];omega
    have next:bef l out[j] l[i]=true→Ev (fun k=>r10_Top.l1 k l out (i:Int) (depR l l[i].f0) ((j+1:Nat):Int)) r:=fun hb=>top_l1 hl ho hi hr d (j+1) (by omega) (by omega) (fun m h hm=>by
      by_cases e:m=j
      · subst e;exact hb
      exact h1 m h (by omega))
    refine Ev.step (fun k=>r10_Top.l1.eq_2 (k:=k) ..) ?_
    rw [rd_wantN l hi,rd_wantN out hlt,nx64 hi (by omega),nx64 hlt (by omega),Int.toNat_natCast]
    refine Ev.congr (fun k=>by rw [if_pos (by omega),if_pos (by omega)]) (Ev.bind (r10_Depth_ev l out[j].f0 (by omega)) ?_)
    by_cases c1:depR l out[j].f0<depR l l[i].f0
    · exact Ev.congr (fun k=>if_pos c1) (next (by unfold bef;rw [decide_eq_true c1];rfl))
    refine Ev.congr (fun k=>if_neg c1) (Ev.bind (r10_Depth_ev l out[j].f0 (by omega)) ?_)
    by_cases c2:depR l out[j].f0=depR l l[i].f0
    rotate_left
    · refine Ev.congr (fun k => by rw [if_neg c2, Option.bind_some, if_pos (by omega), Option.bind_some, if_pos (by rw [List.length_nil, List.length_take]; omega), Option.bind_some, if_pos (by omega), if_pos (by omega), if_pos (by omega), Option.bind_some, Option.bind_some, if_pos (by rw [List.length_append, List.length_singleton]; omega)]) ?_
      exact top_put hl ho hi hj hr h1 (fun h=>by unfold bef;rw [decide_eq_false c1,decide_eq_false c2];simp)
    refine Ev.congr (fun k=>by rw [if_pos c2,if_pos (by omega),if_pos (by omega)]) ?_
    by_cases c3:lt out[j].f0 l[i].f0=true
    · exact Ev.congr (fun k=>if_pos (show Op.bytesLess out[j].f0.toList l[i].f0.toList=true from c3)) (next (by unfold bef;rw [decide_eq_true c2,c3];simp))
    refine Ev.congr (fun k=>by rw [if_neg (show¬Op.bytesLess out[j].f0.toList l[i].f0.toList=true from c3),Option.bind_some,if_pos (by omega),Option.bind_some,if_pos (by rw [List.length_nil,List.length_take];omega),Option.bind_some,if_pos (by omega),Option.bind_some,Option.bind_some,if_pos (by rw [List.length_append,List.length_singleton];omega)]) ?_
    exact top_put hl ho hi hj hr h1 (fun h=>by unfold bef;rw [decide_eq_false c1,Bool.eq_false_iff.2 c3];simp)
theorem top_l0 {l:List Want} (hl:l.length≤500): ∀(d i:Nat) (out:List Want),l.length - i=d→i≤l.length→out.length=i→Ev (fun k=>r10_Top.l0 k l out (i:Int)) (topGo l out (l.drop i))
  | 0, i, out, hd, hi, ho => by
    rw [List.drop_of_length_le (by omega)]
    exact Ev.step (fun k=>r10_Top.l0.eq_2 (k:=k) ..) (Ev.congr (fun k=>if_neg (by omega)) (Ev.now _))
  | d + 1, i, out, hd, hi, ho => by
    have hlt:i<l.length:=by omega
    have next:=top_l0 hl d (i+1) (insT l l[i] out) (by omega) (by omega) (by rw [len_insT];omega)
    rw [List.drop_eq_getElem_cons hlt]
    refine Ev.step (fun k=>r10_Top.l0.eq_2 (k:=k) ..) ?_
    rw [rd_wantN l hlt]
    refine Ev.congr (fun k=>by rw [if_pos (by omega),if_pos (by omega)]) (Ev.bind (r10_Depth_ev l l[i].f0 (by omega)) ?_)
    exact top_l1 (by omega) (by omega) hlt next out.length 0 (by omega) (by omega) (fun m h hm=>by omega)
theorem r10_Top_ev {l:List Want} (hl:l.length≤500):Ev (fun k=>r10_Top.f k l) (topR l):=by
 have h:=top_l0 hl l.length 0 [] (by omega) (by omega) rfl
 rw [List.drop_zero] at h
 exact h
theorem bef_irrefl (l:List Want) (a:Want):bef l a a=false:=by unfold bef;rw [decide_eq_false (by omega),lt_irrefl];simp
theorem bef_iff {l:List Want} {a b:Want}:bef l a b=true↔depR l a.f0<depR l b.f0∨(depR l a.f0=depR l b.f0∧lt a.f0 b.f0=true):=by unfold bef;simp
theorem bef_trans {l:List Want} {a b c:Want} (h:bef l a b=true) (k:bef l b c=true):bef l a c=true:=by
  rw [bef_iff] at h k ⊢
  rcases h with h|⟨h,h'⟩<;>rcases k with k|⟨k,k'⟩
  · exact .inl (by omega)
  · exact .inl (by omega)
  · exact .inl (by omega)
  exact .inr ⟨by omega,lt_trans h' k'⟩
theorem bef_total {l:List Want} {a b:Want} (h:bef l a b=false) (hn:a.f0≠b.f0):bef l b a=true:=by
  rw [←Bool.not_eq_true,bef_iff] at h
  rw [bef_iff]
  by_cases e:depR l a.f0=depR l b.f0
  rotate_left
  · exact .inl (by have: ¬depR l a.f0<depR l b.f0:=fun q=>h (.inl q);omega)
  refine .inr ⟨e.symm,lt_total ?_ hn⟩
  rw [←Bool.not_eq_true]
  exact fun q=>h (.inr ⟨e,q⟩)
theorem insT_perm (l:List Want) (w:Want) (out:List Want):(insT l w out).Perm (w::out):=by
 unfold insT
 have:=List.perm_middle (a:=w) (l₁:=out.takeWhile (fun a=>bef l a w)) (l₂:=out.dropWhile (fun a=>bef l a w))
 rwa [List.takeWhile_append_dropWhile] at this
theorem topGo_perm (l:List Want): ∀(ws out:List Want),(topGo l out ws).Perm (out++ws)
  |[],out=>by rw [List.append_nil];exact .refl _
  | w :: ws, out => by
    unfold topGo
    refine (topGo_perm l ws _).trans ?_
    refine ((insT_perm l w out).append_right ws).trans ?_
    exact List.perm_middle.symm
theorem topR_perm (l:List Want):(topR l).Perm l:=topGo_perm l l []
theorem insT_sorted {l:List Want} {w:Want} {out:List Want} (h:out.Pairwise (fun a b=>bef l a b=true)) (hn: ∀a∈out,a.f0≠w.f0):(insT l w out).Pairwise (fun a b=>bef l a b=true):=by
  induction out with
  |nil=>simp [insT]
  | cons x out ih =>
    rw [List.pairwise_cons] at h
    unfold insT
    rw [List.takeWhile_cons,List.dropWhile_cons]
    by_cases c:bef l x w=true
    · rw [c]
      show (x::insT l w out).Pairwise _
      rw [List.pairwise_cons]
      refine ⟨fun a ha=> ?_,ih h.2 (fun a ha=>hn a (by simp [ha]))⟩
      rcases List.mem_cons.1 ((insT_perm l w out).mem_iff.1 ha) with rfl|ha
      · exact c
      exact h.1 a ha
    rw [Bool.eq_false_iff.2 c]
    show (w::x::out).Pairwise _
    have hw:=bef_total (Bool.eq_false_iff.2 c) (hn x (by simp))
    rw [List.pairwise_cons,List.pairwise_cons]
    refine ⟨fun a ha=> ?_,h⟩
    rcases List.mem_cons.1 ha with rfl|ha
    · exact hw
    exact bef_trans hw (h.1 a ha)
theorem topGo_sorted {l:List Want}: ∀{ws out:List Want},out.Pairwise (fun a b=>bef l a b=true)→((out++ws).map (·.f0)).Nodup→(topGo l out ws).Pairwise (fun a b=>bef l a b=true)
  |[],out,h,_=>h
  | w :: ws, out, h, hn => by
    unfold topGo
    have hn2:=hn
    rw [List.map_append,List.map_cons,List.nodup_append] at hn2
    refine topGo_sorted (insT_sorted h (fun a ha q=>hn2.2.2 a.f0 (List.mem_map_of_mem ha) w.f0 (by simp) q)) ?_
    refine (((insT_perm l w out).append_right ws).map _).nodup_iff.2 ?_
    exact ((List.perm_middle (a:=w) (l₁:=out) (l₂:=ws)).map _).nodup_iff.1 hn
theorem topR_sorted {l:List Want} (hn:(l.map (·.f0)).Nodup):(topR l).Pairwise (fun a b=>bef l a b=true):=topGo_sorted (by simp) (by simpa using hn)
theorem top_unique {l t:List Want} (hn:(l.map (·.f0)).Nodup) (hp:t.Perm l) (hs:t.Pairwise (fun a b=>bef l a b=true)):t=topR l:=by
 refine List.Perm.eq_of_pairwise (le:=fun a b=>bef l a b=true) ?_ hs (topR_sorted hn) (hp.trans (topR_perm l).symm)
 intro a b _ _ h1 h2
 have:=bef_trans h1 h2
 rw [bef_irrefl] at this
 cases this
end Go.Proofs.Ytahidkjncljkaaa.Print

namespace Go.Proofs.Ytahidkjncljkaaa.Print
open Go.Shelf Go.RowKit Go.Lib Go.Sort
open Go.Proofs.YtahidkjncljkaaaW.PrintWords Go.Proofs.YtahidkjncljkaaaW.PrintLast Go.Proofs.YtahidkjncljkaaaW.PrintMore
def renS:Ren:=⟨fun n=>if n=20 then 147 else n,fun n=>match n with|0=>0|3=>3|4=>4|22=>22|24=>39|25=>121|m=>m,fun n=>n⟩
theorem laysIns:SlLaysF0.n20 Try.prog renS where
 mixed:=by kernel_rfl
 f20:=⟨ "slices.insertionSortCmpFunc[doorkeeper/api.Want]",by decide,by kernel_rfl⟩
 t0:=Try.underlying0
 a0:=Try.isAgg0
 z0:=Try.sizeOf0
 v0:=Try.zeroValue0
 t3:=Try.underlying3
 a3:=Try.isAgg3
 z3:=Try.sizeOf3
 v3:=Try.zeroValue3
 t4:=Try.underlying4
 a4:=Try.isAgg4
 z4:=Try.sizeOf4
 v4:=Try.zeroValue4
 t22:=Try.underlying22
 a22:=Try.isAgg22
 z22:=Try.sizeOf22
 v22:=Try.zeroValue22
 t25:=Try.underlying121
 a25:=Try.isAgg121
 z25:=Try.sizeOf121
 v25:=Try.zeroValue121
theorem sortT:SortT Try.prog 5 where
 mixed:=by kernel_rfl
 t0:=Try.underlying0
 a0:=Try.isAgg0
 z0:=Try.sizeOf0
 v0:=Try.zeroValue0
 t3:=Try.underlying3
 a3:=Try.isAgg3
 z3:=Try.sizeOf3
 v3:=Try.zeroValue3
 t4:=Try.underlying4
 a4:=Try.isAgg4
 z4:=Try.sizeOf4
 v4:=Try.zeroValue4
 t5:=Try.underlying207
 a5:=Try.isAgg207
 z5:=Try.sizeOf207
 v5:=Try.zeroValue207
 t22:=Try.underlying22
 a22:=Try.isAgg22
 z22:=Try.sizeOf22
 v22:=Try.zeroValue22
 t25:=Try.underlying121
 a25:=Try.isAgg121
 z25:=Try.sizeOf121
 v25:=Try.zeroValue121
 aE:=Try.isAgg39
 zE:=Try.sizeOf39
abbrev SW_:={w:Want // w.f0.size≤maxLen}
instance:Inhabited SW_:=⟨⟨zWant,Nat.zero_le _⟩⟩
def encW (x:SW_):List Value:=[.string x.1.f0, .string x.1.f1, .int .i64 x.1.f2.f0, .int .i64 x.1.f2.f1, .int .i64 x.1.f2.f2]
def cfW (f:ByteArray→Int) (x y:SW_):Int:=cmpW f x.1.f0 y.1.f0
theorem cmpI_neg {x y:Int}:cmpI x y<0↔x<y:=by
  unfold cmpI
  by_cases h1:x<y
  · simp [h1]
  · by_cases h2:y<x<;>simp [h1,h2]
theorem cmpI_zero {x y:Int}:cmpI x y=0↔x=y:=by
  unfold cmpI
  by_cases h1:x<y
  · simp [h1];omega
  · by_cases h2 : y < x
    · simp [h1,h2];omega
    · simp [h1,h2];omega
theorem cmpS_neg {x y:ByteArray}:cmpS x y<0↔lt x y=true:=by
  unfold cmpS
  by_cases h1:lt x y=true
  · simp [h1]
  · by_cases h2:lt y x=true<;>simp [h1,h2]
theorem cmpW_neg {f:ByteArray→Int} {x y:ByteArray}:cmpW f x y<0↔f x<f y∨(f x=f y∧lt x y=true):=by
  unfold cmpW orI
  by_cases h:cmpI (f x) (f y)=0
  · rw [if_pos h, cmpS_neg]
    have:=cmpI_zero.1 h
    constructor
    · exact fun q=> .inr ⟨this,q⟩
    · rintro (q | q)
      · omega
      · exact q.2
  · rw [if_neg h, cmpI_neg]
    have:f x≠f y:=fun q=>h (cmpI_zero.2 q)
    constructor
    · exact fun q=> .inl q
    · rintro (q | q)
      · exact q
      · exact absurd q.1 this
theorem ltOf_W {f:ByteArray→Int} {x y:SW_}:ltOf (cfW f) x y=true↔f x.1.f0<f y.1.f0∨(f x.1.f0=f y.1.f0∧lt x.1.f0 y.1.f0=true):=by
 unfold ltOf cfW
 rw [decide_eq_true_iff,cmpW_neg]
theorem ltOf_Wf {f:ByteArray→Int} {x y:SW_}:ltOf (cfW f) x y=false↔f y.1.f0<f x.1.f0∨(f x.1.f0=f y.1.f0∧lt x.1.f0 y.1.f0=false):=by
  rw [←Bool.not_eq_true,ltOf_W]
  constructor
  · intro h
    by_cases e:f x.1.f0=f y.1.f0
    · exact .inr ⟨e,by rw [←Bool.not_eq_true];exact fun q=>h (.inr ⟨e,q⟩)⟩
    · exact .inl (by have: ¬f x.1.f0<f y.1.f0:=fun q=>h (.inl q);omega)
  · rintro (h | ⟨h, h'⟩) (k | ⟨k, k'⟩)
    · omega
    · omega
    · omega
    · rw [h'] at k';cases k'
theorem lt_ntrans {a b c:ByteArray} (h:lt a b=false) (k:lt b c=false):lt a c=false:=by
  cases q:lt a c with
  |false=>rfl
  | true =>
    by_cases e:b=c
    · rw [e,q] at h;cases h
    · have := lt_trans q (lt_total k e)
      rw [h] at this;cases this
theorem swoW (f:ByteArray→Int):SWO (ltOf (cfW f)) where
  irrefl x:=ltOf_Wf.2 (.inr ⟨rfl,lt_irrefl _⟩)
  trans x y z h k:=by
    rw [ltOf_W] at h k ⊢
    rcases h with h|⟨h,h'⟩<;>rcases k with k|⟨k,k'⟩
    · exact .inl (by omega)
    · exact .inl (by omega)
    · exact .inl (by omega)
    · exact .inr ⟨by omega,lt_trans h' k'⟩
  ntrans x y z h k:=by
    rw [ltOf_Wf] at h k ⊢
    rcases h with h|⟨h,h'⟩<;>rcases k with k|⟨k,k'⟩
    · exact .inl (by omega)
    · exact .inl (by omega)
    · exact .inl (by omega)
    · exact .inr ⟨by omega,lt_ntrans h' k'⟩
theorem sortWorld_block {α:Type} [Inhabited α] (enc:α→List Value) (k:Nat) (w:World) (blk off m:Nat) (dk:Array α) (os:Array Obj) {g:Nat} (hg:g<w.heap.size) (hne:g≠blk):(sortWorldK enc k w blk off m dk os).heap[g]?=w.heap[g]?:=by
 show ((w.heap.modify blk _)++os)[g]?=_
 rw [Array.getElem?_append_left (by simpa using hg),Array.getElem?_modify,if_neg (fun e=>hne e.symm)]
theorem sortWorld_own {α:Type} [Inhabited α] (enc:α→List Value) (k:Nat) (w:World) (blk off m:Nat) (dk:Array α) (os:Array Obj) {c:Array Value} {e:TypeId} {fr:Nat×Nat} (h:w.heap[blk]?=some (.cells c e fr)):(sortWorldK enc k w blk off m dk os).heap[blk]?=some (.cells (putCells id off (flatK enc k dk) c) e fr):=by
 have hl:blk<w.heap.size:=(Array.getElem?_eq_some_iff.1 h).1
 show ((w.heap.modify blk _)++os)[blk]?=_
 rw [Array.getElem?_append_left (by simpa using hl),Array.getElem?_modify,if_pos rfl,h]
 rfl
theorem sortWorld_grown {α:Type} [Inhabited α] (enc:α→List Value) (k:Nat) (w:World) (blk off m:Nat) (dk:Array α) (os:Array Obj):w.grownBy (sortWorldK enc k w blk off m dk os) (some blk) where
 os:=rfl
 tape:=rfl
 output:=rfl
 size:=by
  show w.heap.size≤((w.heap.modify blk _)++os).size
  simp
 block:=fun g hg hne=>sortWorld_block enc k w blk off m dk os hg (fun e=>hne (by rw [e]))
theorem cmpLaysW (f:ByteArray→Int) {w0:World} {gd b mb n:Nat} {v0:Value} (hgd:w0.heap[gd]?=some (.cells #[.pointer (some ⟨b,0,none⟩)] 108 (0,0))) (hb:w0.heap[b]?=some (.cells #[v0, .map (some mb)] 113 (0,0))) (hm:MapAt w0 mb n f) {blk:Nat} (h1:gd≠blk) (h2:b≠blk) (h3:mb≠blk) (off size:Nat):
    CmpLays Try.prog 79 #[.pointer (some ⟨gd,0,none⟩)] encW 5 (cfW f) blk off size w0:=by
  intro m os dk _ x y
  refine wantTop1_calls (sortWorldK encW 5 w0 blk off m dk os) gd b mb n v0 f ?_ ?_ ?_ x.1 y.1 x.2 y.2
  · rw [sortWorld_block _ _ _ _ _ _ _ _ (blk_lt hgd) h1];exact hgd
  · rw [sortWorld_block _ _ _ _ _ _ _ _ (blk_lt hb) h2];exact hb
  · exact hm.kept (sortWorld_block _ _ _ _ _ _ _ _ hm.lt h3)
theorem encW_len (x:SW_):(encW x).length=5:=rfl
theorem encW_one (x:SW_): ∀v∈encW x,v.oneCell'=true:=by
 intro v hv
 simp only [encW,List.mem_cons,List.not_mem_nil,or_false] at hv
 rcases hv with rfl|rfl|rfl|rfl|rfl<;>rfl
def arrW (l:List Want) (h: ∀x∈l,x.f0.size≤maxLen):Array SW_:=(l.attach.map fun x=>(⟨x.1,h x.1 x.2⟩:SW_)).toArray
theorem arrW_list (l:List Want) (h: ∀x∈l,x.f0.size≤maxLen):(arrW l h).toList.map (·.1)=l:=by
 unfold arrW
 rw [List.map_map]
 show l.attach.map (fun x=>x.1)=l
 simp
theorem arrW_size {l:List Want} {d:Array SW_} (h:d.toList.map (·.1)=l):d.size=l.length:=by rw [←h,List.length_map,Array.length_toList]
theorem arrW_get {l:List Want} {d:Array SW_} (h:d.toList.map (·.1)=l) {j:Nat} (hj:j<l.length):d[j]!.1=l[j]:=by
 have hs:=arrW_size h
 have e:(d.toList.map (·.1))[j]?=l[j]?:=by rw [h]
 rw [List.getElem?_map,Array.getElem?_toList,List.getElem?_eq_getElem hj,Array.getElem?_eq_getElem (by omega)] at e
 rw [getElem!_pos d j (by omega)]
 exact Option.some.inj e
theorem flat_get (d:Array SW_) {j i:Nat} (hj:j<d.size) (hi:i<5):(flatK encW 5 d).toList[j*5+i]?=(encW d[j]!)[i]?:=by
 have h:j*5+i<d.size*5:=by omega
 have e1:=get_flatK encW 5 d (j*5+i) h
 rw [show (j*5+i) / 5=j by omega,show (j*5+i) % 5=i by omega] at e1
 rw [Array.getElem?_toList,Array.getElem?_eq_getElem (by simpa using h),List.getElem?_eq_getElem (by rw [encW_len];exact hi)]
 rw [getElem!_pos _ _ (by simpa using h),getElem!_pos _ _ (by rw [encW_len];exact hi)] at e1
 rw [e1]
theorem flat_seg (d:Array SW_) {j:Nat} (hj:j<d.size):((flatK encW 5 d).toList.drop (j*5)).take 5=encW d[j]!:=by
  apply List.ext_getElem?
  intro i
  by_cases hi:i<5
  · rw [List.getElem?_take_of_lt hi,List.getElem?_drop,flat_get d hj hi]
  · rw [List.getElem?_eq_none (by rw [List.length_take];omega),List.getElem?_eq_none (by rw [encW_len];omega)]
theorem flat_len (d:Array SW_):(flatK encW 5 d).toList.length=d.size*5:=by simp
theorem reps_flat (w:World) (base:Nat) (ok:Nat→Prop) (d:Array SW_):Reps (k39.M w base ok) 5 (d.toList.map (·.1)) (flatK encW 5 d).toList:=by
 refine ⟨by rw [flat_len,List.length_map,Array.length_toList],fun j p hp=> ?_⟩
 have hj:j<d.size:=by
  have:=(List.getElem?_eq_some_iff.1 hp).1
  rwa [List.length_map,Array.length_toList] at this
 rw [flat_seg d hj]
 have e:d[j]!.1=p:=by
  rw [List.getElem?_map,Array.getElem?_toList,Array.getElem?_eq_getElem hj] at hp
  rw [getElem!_pos d j hj]
  exact Option.some.inj hp
 rw [←e]
 exact k39_mkM w base ok d[j]!.1
theorem flat_of_reps {w:World} {base:Nat} {ok:Nat→Prop} {l:List Want} {inner:List Value} (h:Reps (k39.M w base ok) 5 l inner) {d:Array SW_} (hd:d.toList.map (·.1)=l):inner=(flatK encW 5 d).toList:=by
  have hs:=arrW_size hd
  apply List.ext_getElem?
  intro t
  by_cases ht:t<d.size*5
  · have hj : t / 5 < l.length := by omega
    have q:=k39_openM (h.2 (t / 5) l[t / 5] (List.getElem?_eq_getElem hj))
    have e:t=(t / 5)*5+t % 5:=by omega
    have q2:=congrArg (fun z=>z[t % 5]?) q
    try dsimp only at q2
    rw [List.getElem?_take_of_lt (by omega),List.getElem?_drop,←e] at q2
    have g:=arrW_get hd hj
    have q3:=flat_get d (j:=t / 5) (i:=t % 5) (by omega) (by omega)
    rw [←e] at q3
    rw [q2,q3]
    unfold encW
    rw [g]
  · rw [List.getElem?_eq_none (by rw [h.1];omega),List.getElem?_eq_none (by rw [flat_len];omega)]
theorem put_take {F cur:Array Value} (h:F.size≤cur.size):(putCells id 0 F cur).toList.take F.size=F.toList:=by
  apply List.ext_getElem?
  intro t
  by_cases ht:t<F.size
  · rw [List.getElem?_take_of_lt ht, Array.getElem?_toList, Array.getElem?_toList, Array.getElem?_eq_getElem ht]
    unfold putCells
    rw [Array.getElem?_mapIdx,Array.getElem?_eq_getElem (by omega)]
    simp [ht]
  · rw [List.getElem?_eq_none (by rw [List.length_take];omega),List.getElem?_eq_none (by rw [Array.length_toList];omega)]
theorem put_size {F cur:Array Value}:(putCells id 0 F cur).size=cur.size:=by unfold putCells;simp
theorem ownW {w:World} {base:Nat} {v:Value} {l:List Want} (h:Kd.R k39 39 w base (fun _=>True) v l):(v= .slice none 0 0∧l=[])∨ ∃g cap cur,v= .slice (some ⟨g,0,none⟩) l.length cap∧base≤g∧w.heap[g]?=some (.cells cur 39 (0,0))∧l.length≤cap∧cap≤maxLen∧cur.size=cap*5∧
    ∀d:Array SW_,d.toList.map (·.1)=l→cur.toList.take (l.length*5)=(flatK encW 5 d).toList:=by
  obtain ⟨_,inner,⟨h1,h2⟩,hr⟩:=h
  rcases h2 with ⟨rfl,h2⟩|⟨g,cap,cur,rfl,hg,hh,hc,hm,hs,ht⟩
  · exact .inl ⟨rfl,List.length_eq_zero_iff.1 h2⟩
  · exact .inr ⟨g,cap,cur,rfl,hg,hh,hc,hm,hs,fun d hd=>ht.trans (flat_of_reps hr hd)⟩
theorem holdsW {w:World} {g n:Nat} {cur:Array Value} {d:Array SW_} (hh:w.heap[g]?=some (.cells cur 39 (0,0))) (ht:cur.toList.take n=(flatK encW 5 d).toList):HoldsK encW 5 w g 0 d:=by
  intro j hj
  have hj':j<(flatK encW 5 d).size:=hj
  rw [Nat.zero_add]
  refine ⟨?_,blk_frozen hh j⟩
  rw [blk_cell hh j]
  have e:(cur.toList.take n)[j]?=(flatK encW 5 d).toList[j]?:=by rw [ht]
  rw [show (flatK encW 5 d).toList[j]?=some (flatK encW 5 d)[j] by rw [Array.getElem?_toList,Array.getElem?_eq_getElem hj']] at e
  have hjn:j<n:=by
    by_cases q:j<n
    · exact q
    · rw [List.getElem?_eq_none (by rw [List.length_take];omega)] at e;cases e
  rw [List.getElem?_take_of_lt hjn,Array.getElem?_toList] at e
  rw [e,getElem!_pos (flatK encW 5 d) j hj']
  rfl
theorem sortedW {w:World} {base g cap m:Nat} {cur:Array Value} {os:Array Obj} {d d':Array SW_} (hg:base≤g) (hh:w.heap[g]?=some (.cells cur 39 (0,0))) (hc:d.size≤cap) (hm:cap≤maxLen) (hs:cur.size=cap*5) (hd:d'.size=d.size):
    Kd.R k39 39 (sortWorldK encW 5 w g 0 m d' os) base (fun _=>True) (.slice (some ⟨g,0,none⟩) d.size cap) (d'.toList.map (·.1)):=by
  refine ⟨fun _ _=>trivial,(flatK encW 5 d').toList,⟨by rw [flat_len,List.length_map,Array.length_toList];rfl, .inr ⟨g,cap,_, ?_,hg,sortWorld_own encW 5 w g 0 m d' os hh, ?_,hm, ?_, ?_⟩⟩,reps_flat _ _ _ d'⟩
  · rw [List.length_map,Array.length_toList,hd]
  · rw [List.length_map,Array.length_toList];omega
  · rw [put_size,hs];rfl
  · have e : (List.map (·.1) d'.toList).length * 5 = (flatK encW 5 d').size := by rw [List.length_map, Array.length_toList, size_flatK]
    show (putCells id 0 (flatK encW 5 d') cur).toList.take ((List.map (·.1) d'.toList).length*5)=_
    rw [e]
    exact put_take (by rw [size_flatK,hs];omega)
theorem insN_w (f:ByteArray→Int) {w0:World} {blk cap g:Nat} {cb:Array Value} {d0:Array SW_} (eg: ∀args w,(callFunc g args).run Try.prog w= .ok (.enter g args) w) (hcmp:CmpLays Try.prog g cb encW 5 (cfW f) blk 0 d0.size w0) (R:RowK encW 5 w0 blk 0 d0) (hsz:d0.size<576460752303423488):InsN Try.prog encW (cfW f) 5 g cb blk 0 cap d0 w0:=by
 intro a b d w hs S hab hb
 have hins:=insertionSort_holds (swoW f) d a b hab hb
 have hC:CmpLays Try.prog g cb encW 5 (cfW f) blk 0 d.size w:=fun m os dk hdk x y=>by
  obtain ⟨n0,os0,rfl⟩:=S
  rw [sortWorldK_on encW 5 w0 blk 0 n0 m d dk os0 os R.hblk hdk]
  exact hcmp _ _ dk (by omega) x y
 have key:=AnyQ.insertionSortCmpFunc laysIns 5 Try.isAgg39 Try.sizeOf39 encW encW_len encW_one (cfW f) g cb blk 0 cap a b d w eg hC (S.holds R.hblk R.hH hs.symm) (S.lt R.hblk) hab hb (by omega)
 refine Calls.mono (show Calls Try.prog 147 _ w _ from key) ?_
 rintro e w' ⟨rfl,n,os,rfl⟩
 exact ⟨rfl,_,S.on R.hblk n _ os hins.1.1,hins.2,hins.1⟩
set_option maxRecDepth 100000 in
theorem insNil_calls (c:Nat) (fv:Value) (w:World):Calls Try.prog 147 #[.slice none 0 c, .int .i64 0, .int .i64 0,fv] w fun e w'=>e= .returned (.tuple #[])∧w'=w:=by
 go_enter Try.func147,Try.ntmps147
 go_wp2
 refine wp_loop_rounds 1 ?_
 rw [rounds_succ]
 go_wp2
 go_end0
 exact ⟨rfl,rfl⟩
set_option maxRecDepth 100000 in
theorem stableNil_calls (c:Nat) (fv:Value) (w:World):Calls Try.prog 116 #[.slice none 0 c, .int .i64 0,fv] w fun e w'=>e= .returned (.tuple #[])∧w'=w:=by
 go_enter Try.func116,Try.ntmps116
 go_wp2
 refine wp_loop_rounds 1 ?_
 rw [rounds_succ]
 go_wp2_with (go_at_call 147;refine (insNil_calls _ _ _).mono ?_;rintro e w1 ⟨rfl,rfl⟩)
 refine wp_loop_rounds 1 ?_
 rw [rounds_succ]
 go_wp2
 go_end0
 exact ⟨rfl,rfl⟩
set_option maxHeartbeats 1000000 in
set_option maxRecDepth 100000 in
theorem sortWants_calls (f:ByteArray→Int) {w:World} {base gd b mb n:Nat} {v0 v:Value} {l:List Want} (hgd:w.heap[gd]?=some (.cells #[.pointer (some ⟨b,0,none⟩)] 108 (0,0))) (hb:w.heap[b]?=some (.cells #[v0, .map (some mb)] 113 (0,0))) (hm:MapAt w mb n f) (hR:Kd.R k39 39 w base (fun _=>True) v l) (hs: ∀x∈l,x.f0.size≤maxLen) (hl:l.length≤1000)
    (hmb: ∀k,v.ownBlock=some k→mb≠k):
    Calls Try.prog 78 #[v, .func (.func 79) #[] #[.pointer (some ⟨gd,0,none⟩)]] w fun e w'=>e= .returned (.tuple #[])∧ ∃l',Kd.R k39 39 w' base (fun _=>True) v l'∧l'.Perm l∧l'.Pairwise (fun x y=> ¬cmpW f y.f0 x.f0<0)∧w.grownBy w' v.ownBlock:=by
  rcases ownW hR with ⟨rfl,rfl⟩|⟨g,cap,cur,rfl,hg,hh,hc,hcm,hcs,hflat⟩
  · have HR := Aside0.mk hR
    go_enter Try.func78,Try.ntmps78
    go_wp2_with (go_at_call 116;refine (stableNil_calls _ _ _).mono ?_;rintro e w1 ⟨rfl,rfl⟩)
    go_end0
    exact ⟨rfl,[],HR.out, .refl _, .nil,⟨rfl,rfl,rfl,Nat.le_refl _,fun _ _ _=>rfl⟩⟩
  · obtain ⟨d, hd⟩ : ∃ d : Array SW_, d.toList.map (·.1) = l := ⟨arrW l hs, arrW_list l hs⟩
    have hds:=arrW_size hd
    have hH:=holdsW hh (hflat d hd)
    have R:RowK encW 5 w g 0 d:=⟨encW_len,encW_one,hH,blk_lt hh⟩
    have ne1:gd≠g:=by rintro rfl;rw [hgd] at hh;simp at hh
    have ne2:b≠g:=by rintro rfl;rw [hb] at hh;simp at hh
    have ne3:mb≠g:=hmb g (by simp [Value.ownBlock])
    have hcmp:=cmpLaysW f hgd hb hm ne1 ne2 ne3 0 d.size
    have eg: ∀args w,(callFunc 79 args).run Try.prog w= .ok (.enter 79 args) w:=enters_of Try.func79 (by kernel_rfl) rfl
    have hI:=insN_w f (cap:=cap) eg hcmp R (by omega)
    have hY:=symMerge_w Try.func176 Try.func169 Try.func148 sortT encW (cfW f) 79 #[.pointer (some ⟨gd,0,none⟩)] g 0 cap d w eg hcmp R (swoW f) (by omega)
    have key:=stable_w Try.func147 Try.func148 Try.func116 sortT encW (cfW f) 79 #[.pointer (some ⟨gd,0,none⟩)] g 0 cap d w hI hY (by omega) d w rfl (SWK.start hH)
    rw [hds] at key
    have fin: ∀d':Array SW_,∀w',SWK encW 5 w g 0 d' w'→SortedIn (ltOf (cfW f)) 0 l.length d'→PermIn 0 l.length d d'→ ∃l',Kd.R k39 39 w' base (fun _=>True) (.slice (some ⟨g,0,none⟩) l.length cap) l'∧l'.Perm l∧l'.Pairwise (fun x y=> ¬cmpW f y.f0 x.f0<0)∧w.grownBy w' (some g):=by
      rintro d' w' ⟨m,os,rfl⟩ hso hp
      have hd':=hp.1
      have r:=sortedW (m:=m) (os:=os) (d:=d) (d':=d') hg hh (by omega) hcm hcs hd'
      rw [hds] at r
      refine ⟨_,r, ?_, ?_,sortWorld_grown encW 5 w g 0 m d' os⟩
      · have q := hp.2.2
        rw [show d'.extract 0 l.length=d' by rw [←hds,←hd'];exact Array.extract_size,show d.extract 0 l.length=d by rw [←hds];exact Array.extract_size] at q
        have:=q.map (·.1)
        rwa [hd] at this
      · rw [List.pairwise_map, List.pairwise_iff_getElem]
        intro i j hi hj hij
        rw [Array.length_toList] at hi hj
        have q:=hso i j (Nat.zero_le _) hij (by omega)
        rw [getElem!_pos d' i hi,getElem!_pos d' j hj] at q
        unfold ltOf at q
        rw [decide_eq_false_iff_not] at q
        exact q
    have FIN:=Aside0.mk fin
    clear fin hI hY hcmp R hH eg hgd hb hm hR hh hflat hd
    go_enter Try.func78,Try.ntmps78
    go_wp2_with (go_at_call 116;refine key.mono ?_;rintro e w1 ⟨rfl,d',S,X,Y⟩;have T:=Aside0.mk (FIN.out d' w1 S X Y);clear S X Y)
    go_end0
    obtain ⟨l',h1,h2,h3,h4⟩:=T.out
    exact ⟨rfl,l',h1,h2,h3,by simpa [Value.ownBlock] using h4⟩
end Go.Proofs.Ytahidkjncljkaaa.Print

namespace Go.Proofs.Ytahidkjncljkaaa.Print
open Go.RowKit Go.Proofs.YtahidkjncljkaaaW.PrintWords Go.Proofs.YtahidkjncljkaaaW.PrintLast Go.Proofs.YtahidkjncljkaaaW.PrintMore
attribute [local go_sem] max2_int min2_int max_two min_two max_three min_three max_four min_four

def TopIs (l t:List (S39)):Prop:=t.Perm l∧t.Pairwise (fun x y=> ¬cmpW (fillR l) y.f0 x.f0<0)
noncomputable def want_Top.f (l0:List (S39)):Option (List (S39)):=open Classical in if h:l0.length≤1000∧smallW l0∧ ∃t,TopIs l0 t∧ ∀t',TopIs l0 t'→t'=t then some h.2.2.choose else none
set_option maxHeartbeats 8000000 in
set_option maxRecDepth 100000 in
theorem want_Top.calls (A0:Option Addr) (c0:Nat) (l0:List (S39)) (r:List (S39)) (w:World) (hr0:Kd.C k39 w A0 l0.length l0) (hc0:l0.length≤c0) (h:want_Top.f l0=some r):
    Calls Try.prog 30 #[.slice A0 l0.length c0] w fun e w'=> ∃v0_:Value,e= .returned (v0_)∧Kd.R k39 39 w' w.heap.size (fun _=>True) v0_ r∧Below w.heap.size w w':=by
  unfold want_Top.f at h
  split at h
  rotate_left
  · cases h


  rename_i hh
  have hlim:slices_Clone_Want.f l0=some l0:=by unfold slices_Clone_Want.f;rw [if_pos (by have:=hh.1;omega)]
  have UQ:=am_ (show∀t',TopIs l0 t'→t'=r from by
    have q:=Option.some.inj h
    subst q
    have s:=hh.2.2.choose_spec
    exact s.2)
  obtain ⟨hl,hs,_⟩:=hh
  clear h
  have hu113:=Try.underlying113
  have hcall:=wantMade_calls A0 c0 l0 w hr0 hc0 hl hs
  have HR:=Aside0.mk hr0
  have HC:=Aside0.mk hc0
  have HL:=Aside0.mk hl
  have HS:=am_ (show∀x∈l0,x.f0.size≤maxLen from fun x hx=>by have:=(hs x hx).1;unfold maxLen;omega)
  have LM:=Aside0.mk hlim
  clear hr0 hc0 hl hs hlim
  go_enter Try.func30,Try.ntmps30
  go_wp2_with (first|(go_at_call 76;refine hcall.mono ?_;rintro e w3 ⟨b,mb,n,rfl,hgb,hbk,hm,hb⟩;have BK:=Aside0.mk hbk;have MP:=Aside0.mk hm;have HB:=Aside0.mk hb;clear hgb hbk hm hb hcall)|((with_reducible refine gate_dst (N:=3) rfl ?_);refine bx_ (N:=3) (cs:=#[.pointer none]) (t:=108) ?_;intro gb3 hg w4 hbox hb;have hbl:=blk_lt BK.out;replace BK:=am_ (blk_below BK.out hb);have BK3:=am_ (hbox);have GE3:=am_ ((by rw [hg];exact below_size HB.out:w.heap.size≤gb3));replace HB:=am_ (below_step HB.out hb);have EQ3:=am_ (hg);have NEB:=am_ (show b≠gb3 from by have:=hbl;rw [EQ3.out];exact Nat.ne_of_lt this);have NEM:=am_ (show mb≠gb3 from by have:=MP.out.lt;rw [EQ3.out];exact Nat.ne_of_lt this);have m_:=am_ (MP.out.below hb);clear MP;have MP:=m_;clear m_ hbl hb hbox hg)|((with_reducible refine gate_store (t:=108) (p:=3) (v:= .tmp 6) rfl ?_);refine store_all BK3.out 108 (.tmp 3) (.tmp 6) rfl rfl rfl (.pointer (some ⟨b,0,none⟩)) [.pointer (some ⟨b,0,none⟩)] rfl rfl rfl (by kernel_rfl) rfl (by intro q hq;simp only [List.mem_cons,List.not_mem_nil,or_false] at hq;rcases hq with rfl<;>rfl) ?_;intro w5 hbk hg;replace BK:=am_ (blk_put_other BK.out hg (NEB.out));replace HB:=am_ (below_put HB.out (below_size HB.out) hg GE3.out);replace MP:=am_ (MP.out.other hg NEM.out);replace BK3:=am_ (hbk);clear hbk hg)|(go_at_call 77;refine (slices_Clone_Want.calls A0 c0 l0 l0 _ (Kd.C_below HR.out HB.out) HC.out LM.out).mono ?_;rintro e w6 ⟨v,rfl,hr,hb⟩;have HNE:=am_ (show∀k,v.ownBlock=some k→mb≠k∧w.heap.size≤k from fun k hk=>by (have q:_≤k:=(by obtain ⟨_,inner,q,_⟩:=hr;exact own_base q k hk);have:=MP.out.lt;have:=below_size HB.out;omega));have n0_:=am_ (Kd.R_lower hr (below_size HB.out));have n1_:=am_ (blk_below BK.out hb);have n2_:=am_ (blk_below BK3.out hb);have n3_:=am_ (MP.out.below hb);have n4_:=am_ (below_step HB.out hb);clear BK BK3 MP HB hr hb;have HV:=n0_;have BK:=n1_;have BK3:=n2_;have MP:=n3_;have HB:=n4_;clear n0_ n1_ n2_ n3_ n4_)|(go_at_call 78;refine (sortWants_calls (fillR l0) BK3.out BK.out MP.out HV.out HS.out HL.out (fun k hk=>(HNE.out k hk).1)).mono ?_;rintro e w7 ⟨rfl,l',hr,hp,hso,hg⟩;have HO:=am_ (show Kd.R k39 39 w7 w.heap.size (fun _=>True) v r from UQ.out l' ⟨hp,hso⟩▸hr);have n0_:=am_ (pw_below_grown HB.out v.ownBlock (below_size HB.out) hg (fun k hk=>(HNE.out k hk).2));clear HV BK BK3 MP HB hr hp hso hg;have HB:=n0_;clear n0_))
  go_ret
  exact ⟨_,rfl,HO.out,HB.out⟩
def law1_Num.f (a0:Int):Option (Int):=some a0
set_option maxHeartbeats 8000000 in
set_option maxRecDepth 100000 in
theorem law1_Num.calls (a0:Int) (r:Int) (w:World) (h:law1_Num.f a0=some r):
  Calls Try.prog 25 #[.int .i64 a0] w fun e w'=>e= .returned (.int .i64 r)∧Drawn0 w w':=by
 have H:(some a0)=some r:=h
 clear h
 obtain rfl:=Option.some.inj H
 go_enter Try.func25,Try.ntmps25
 go_wp2
 go_ret
 exact ⟨by first|rfl|(simp;done)|(simp [*];done),by repeat (first|exact Drawn0.refl _|apply Drawn0.step)⟩

noncomputable def law11_awake.f (k:Nat):Option (Bool):=(some (([(⟨(⟨#[98]⟩:ByteArray),(⟨#[97]⟩:ByteArray),(⟨0,0,0⟩:S37)⟩:S39),(⟨(⟨#[97]⟩:ByteArray),(⟨#[]⟩:ByteArray),(⟨0,0,0⟩:S37)⟩:S39)]:List (S39)):List (S39))).bind fun y1=>((want_Top.f y1).bind fun t4=>((want_Check.f k ([]:List (S39))).bind fun t7=>((law1_Num.f t7).bind fun t8=>(if t8=0 then (if (t4.length:Int)=2 then (if 0<(t4.length:Int) then (if ((rd_T39 t4 0).f0).toList=([97]:List UInt8) then ((want_Depth.f y1 (⟨#[98]⟩:ByteArray)).bind fun t10=>(some (t10==2))) else (some false)) else (none)) else (some false)) else (some false)))))
theorem law11_awake.mono: ∀k,LeO (law11_awake.f k) (law11_awake.f (k+1)):=by
 intro k
 unfold law11_awake.f
 repeat' first
  |(with_reducible exact want_Check.mono _ _)
  |(with_reducible exact LeO.refl _)
  |(with_reducible exact LeO.none _)
  |(with_reducible refine LeO.ite ?_ ?_)
  |(with_reducible refine LeO.bind ?_ (fun _=> ?_))
  |exact want_Check.mono _ _
  |exact LeO.none _
  |refine LeO.ite ?_ ?_
  |refine LeO.bind ?_ (fun _=> ?_)
set_option maxHeartbeats 8000000 in
set_option maxRecDepth 100000 in
theorem law11_awake.calls (k:Nat) (r:Bool) (w:World) (h:law11_awake.f k=some r):
  Calls Try.prog 23 #[] w fun e w'=>e= .returned (.bool r)∧Below w.heap.size w w':=by
 have hu39:=Try.underlying39
 have HB:=am_ (Below.refl w.heap.size w)
 have H:((some (([(⟨(⟨#[98]⟩:ByteArray),(⟨#[97]⟩:ByteArray),(⟨0,0,0⟩:S37)⟩:S39),(⟨(⟨#[97]⟩:ByteArray),(⟨#[]⟩:ByteArray),(⟨0,0,0⟩:S37)⟩:S39)]:List (S39)):List (S39))).bind fun y1=>((want_Top.f y1).bind fun t4=>((want_Check.f k ([]:List (S39))).bind fun t7=>((law1_Num.f t7).bind fun t8=>(if t8=0 then (if (t4.length:Int)=2 then (if 0<(t4.length:Int) then (if ((rd_T39 t4 0).f0).toList=([97]:List UInt8) then ((want_Depth.f y1 (⟨#[98]⟩:ByteArray)).bind fun t10=>(some (t10==2))) else (some false)) else (none)) else (some false)) else (some false))))))=some r:=h
 clear h
 obtain ⟨y1,hy1⟩: ∃y_:List (S39),y_=(([(⟨(⟨#[98]⟩:ByteArray),(⟨#[97]⟩:ByteArray),(⟨0,0,0⟩:S37)⟩:S39),(⟨(⟨#[97]⟩:ByteArray),(⟨#[]⟩:ByteArray),(⟨0,0,0⟩:S37)⟩:S39)]:List (S39))):=⟨_,rfl⟩
 replace H:((want_Top.f y1).bind fun t4=>((want_Check.f k ([]:List (S39))).bind fun t7=>((law1_Num.f t7).bind fun t8=>(if t8=0 then (if (t4.length:Int)=2 then (if 0<(t4.length:Int) then (if ((rd_T39 t4 0).f0).toList=([97]:List UInt8) then ((want_Depth.f y1 (⟨#[98]⟩:ByteArray)).bind fun t10=>(some (t10==2))) else (some false)) else (none)) else (some false)) else (some false)))))=some r:=by first|(rw [hy1];with_reducible exact H)|(have H2_:=(Option.bind_some _ _).symm.trans H;rw [hy1];with_reducible exact H2_)|(have H2_:=(Option.bind_some _ _).symm.trans H;with_reducible exact H2_)|with_reducible exact H|(rw [hy1];exact H)|exact H
 have Ny1:=Aside0.mk hy1
 clear hy1
 replace H:=Option.bind_eq_some_iff.mp H
 obtain ⟨t4,A10,H⟩:=H
 try dsimp only at H
 have A1:=Aside0.mk A10
 clear A10
 replace H:=Option.bind_eq_some_iff.mp H
 obtain ⟨t7,A20,H⟩:=H
 try dsimp only at H
 have A2:=Aside0.mk A20
 clear A20
 replace H:=Option.bind_eq_some_iff.mp H
 obtain ⟨t8,A30,H⟩:=H
 try dsimp only at H
 have A3:=Aside0.mk A30
 clear A30
 by_cases c4:t8=0
 rotate_left
 ·rw [if_neg c4] at H
  have c4b0:(t8==0)=false:=beq_eq_false_iff_ne.mpr c4
  have c4b1:(t8 !=0)=true:=bne_iff_ne.mpr c4
  obtain rfl:=Option.some.inj H
  go_enter Try.func23,Try.ntmps23
  go_wp2_with (first|((with_reducible refine gate_dst (N:=5) rfl ?_);(try (refine gate_guard (by rfl) ?_;dsimp only));refine Kd.R_lit k39 _ 39 ?hg (N:=5) ?hd (xs:=([(⟨(⟨#[98]⟩:ByteArray),(⟨#[97]⟩:ByteArray),(⟨0,0,0⟩:S37)⟩:S39),(⟨(⟨#[97]⟩:ByteArray),(⟨#[]⟩:ByteArray),(⟨0,0,0⟩:S37)⟩:S39)]:List (S39))) (inner:=[.string (⟨#[98]⟩:ByteArray), .string (⟨#[97]⟩:ByteArray), .int .i64 0, .int .i64 0, .int .i64 0, .string (⟨#[97]⟩:ByteArray), .string (⟨#[]⟩:ByteArray), .int .i64 0, .int .i64 0, .int .i64 0]) (ok:=fun _=>True) (okp:=fun _=>True) ?hr ?hp (fun _ hk=>hk) trivial (Below.refl _ _) (Nat.le_refl _) (by simp) ?_;(case hd=>rfl);(case hg=>rfl);(case hr=>first|(go_simp;done)|(go_simp;rfl));(case hp=>exact (Reps.c5 (show Kd.M k39 _ _ _ (⟨(⟨#[98]⟩:ByteArray),(⟨#[97]⟩:ByteArray),(⟨0,0,0⟩:S37)⟩:S39) [.string (⟨#[98]⟩:ByteArray), .string (⟨#[97]⟩:ByteArray), .int .i64 0, .int .i64 0, .int .i64 0] from (k39_mkM _ _ _ (⟨(⟨#[98]⟩:ByteArray),(⟨#[97]⟩:ByteArray),(⟨0,0,0⟩:S37)⟩:S39))) (Reps.c5 (show Kd.M k39 _ _ _ (⟨(⟨#[97]⟩:ByteArray),(⟨#[]⟩:ByteArray),(⟨0,0,0⟩:S37)⟩:S39) [.string (⟨#[97]⟩:ByteArray), .string (⟨#[]⟩:ByteArray), .int .i64 0, .int .i64 0, .int .i64 0] from (k39_mkM _ _ _ (⟨(⟨#[97]⟩:ByteArray),(⟨#[]⟩:ByteArray),(⟨0,0,0⟩:S37)⟩:S39))) (Reps.none _ _))));intro v2 w28 ho29 hb hg_ hnew_;clear hg_ hnew_;(first|rw [←Ny1.out] at ho29|(simp only [Int.reduceToNat] at ho29;rw [←Ny1.out] at ho29));have HO3:=am_ (Kd.R_lower ho29 (below_size (zl0_ HB)));replace HB:=am_ (below_step (zl0_ HB) hb);clear hb ho29;obtain ⟨Ao30,co30,eo30⟩:=Kd.R_slice HO3.out;subst eo30)|((with_reducible refine gate_callee (f:=30) rfl ?_);refine gl_ (some 7) Try.func30 #[.slice Ao30 y1.length co30] ?_;(with_reducible refine (want_Top.calls _ _ y1 t4 _ ?side1 ?side2 A1.out).mono ?_);(case side1=>exact zc_ (Kd.R_reads' HO3.out).2.2);(case side2=>exact (Kd.R_reads' HO3.out).2.1);rintro e w31 ⟨v5,rfl,ho0,hb⟩;refine ⟨_,rfl, ?_⟩;have HO6:=am_ (Kd.R_lower (Kd.R_new' ho0 (Kd.R_lt (zr_ HO3))) (below_size (zl0_ HB)));replace HO3:=am_ (Kd.R_elder' (zr_ HO3) (Kd.R_base ho0) hb);replace HB:=am_ (below_step (zl0_ HB) hb);(try clear hb);(try clear hb2);(try clear hk);(try clear hi);(try clear ho0))|((with_reducible refine gate_callee (f:=26) rfl ?_);refine gl_ (some 8) Try.func26 #[.slice none 0 0] ?_;(refine (want_Check.calls k _ _ ([]:List (S39)) t7 _ ?side1 ?side2 A2.out).mono ?_);(case side1=>exact Kd.C_nil _ _);(case side2=>exact Nat.le_refl _);rintro e w32 ⟨rfl,hb⟩;refine ⟨_,rfl, ?_⟩;replace HO3:=am_ (Kd.R_below (zr_ HO3) hb);replace HO6:=am_ (Kd.R_below (zr_ HO6) hb);replace HB:=am_ (below_step (zl0_ HB) hb);(try clear hb);(try clear hb2);(try clear hk);(try clear hi))|((with_reducible refine gate_callee (f:=25) rfl ?_);refine gl_ (some 9) Try.func25 #[.int .i64 t7] ?_;(with_reducible refine (law1_Num.calls t7 t8 _ A3.out).mono ?_);rintro e w' ⟨rfl,⟨nd,rfl⟩⟩;refine ⟨_,rfl, ?_⟩))
  go_ret
  exact ⟨by first|rfl|(simp [errW_none,errW_some]<;>rfl)|(simp [*,errW_none,errW_some]<;>rfl),zl0_ HB⟩

 rw [if_pos c4] at H
 have c4b0:(t8==0)=true:=beq_iff_eq.mpr c4
 have c4b1:(t8 !=0)=false:=bne_eq_false_iff_eq.mpr c4
 clear c4
 by_cases c5:(t4.length:Int)=2
 rotate_left
 ·rw [if_neg c5] at H
  have c5b0:((t4.length:Int)==2)=false:=beq_eq_false_iff_ne.mpr c5
  have c5b1:((t4.length:Int) !=2)=true:=bne_iff_ne.mpr c5
  obtain rfl:=Option.some.inj H
  go_enter Try.func23,Try.ntmps23
  go_wp2_with (first|((with_reducible refine gate_dst (N:=5) rfl ?_);(try (refine gate_guard (by rfl) ?_;dsimp only));refine Kd.R_lit k39 _ 39 ?hg (N:=5) ?hd (xs:=([(⟨(⟨#[98]⟩:ByteArray),(⟨#[97]⟩:ByteArray),(⟨0,0,0⟩:S37)⟩:S39),(⟨(⟨#[97]⟩:ByteArray),(⟨#[]⟩:ByteArray),(⟨0,0,0⟩:S37)⟩:S39)]:List (S39))) (inner:=[.string (⟨#[98]⟩:ByteArray), .string (⟨#[97]⟩:ByteArray), .int .i64 0, .int .i64 0, .int .i64 0, .string (⟨#[97]⟩:ByteArray), .string (⟨#[]⟩:ByteArray), .int .i64 0, .int .i64 0, .int .i64 0]) (ok:=fun _=>True) (okp:=fun _=>True) ?hr ?hp (fun _ hk=>hk) trivial (Below.refl _ _) (Nat.le_refl _) (by simp) ?_;(case hd=>rfl);(case hg=>rfl);(case hr=>first|(go_simp;done)|(go_simp;rfl));(case hp=>exact (Reps.c5 (show Kd.M k39 _ _ _ (⟨(⟨#[98]⟩:ByteArray),(⟨#[97]⟩:ByteArray),(⟨0,0,0⟩:S37)⟩:S39) [.string (⟨#[98]⟩:ByteArray), .string (⟨#[97]⟩:ByteArray), .int .i64 0, .int .i64 0, .int .i64 0] from (k39_mkM _ _ _ (⟨(⟨#[98]⟩:ByteArray),(⟨#[97]⟩:ByteArray),(⟨0,0,0⟩:S37)⟩:S39))) (Reps.c5 (show Kd.M k39 _ _ _ (⟨(⟨#[97]⟩:ByteArray),(⟨#[]⟩:ByteArray),(⟨0,0,0⟩:S37)⟩:S39) [.string (⟨#[97]⟩:ByteArray), .string (⟨#[]⟩:ByteArray), .int .i64 0, .int .i64 0, .int .i64 0] from (k39_mkM _ _ _ (⟨(⟨#[97]⟩:ByteArray),(⟨#[]⟩:ByteArray),(⟨0,0,0⟩:S37)⟩:S39))) (Reps.none _ _))));intro v2 w22 ho23 hb hg_ hnew_;clear hg_ hnew_;(first|rw [←Ny1.out] at ho23|(simp only [Int.reduceToNat] at ho23;rw [←Ny1.out] at ho23));have HO3:=am_ (Kd.R_lower ho23 (below_size (zl0_ HB)));replace HB:=am_ (below_step (zl0_ HB) hb);clear hb ho23;obtain ⟨Ao24,co24,eo24⟩:=Kd.R_slice HO3.out;subst eo24)|((with_reducible refine gate_callee (f:=30) rfl ?_);refine gl_ (some 7) Try.func30 #[.slice Ao24 y1.length co24] ?_;(with_reducible refine (want_Top.calls _ _ y1 t4 _ ?side1 ?side2 A1.out).mono ?_);(case side1=>exact zc_ (Kd.R_reads' HO3.out).2.2);(case side2=>exact (Kd.R_reads' HO3.out).2.1);rintro e w25 ⟨v5,rfl,ho0,hb⟩;refine ⟨_,rfl, ?_⟩;have HO6:=am_ (Kd.R_lower (Kd.R_new' ho0 (Kd.R_lt (zr_ HO3))) (below_size (zl0_ HB)));replace HO3:=am_ (Kd.R_elder' (zr_ HO3) (Kd.R_base ho0) hb);replace HB:=am_ (below_step (zl0_ HB) hb);(try clear hb);(try clear hb2);(try clear hk);(try clear hi);(try clear ho0))|((with_reducible refine gate_callee (f:=26) rfl ?_);refine gl_ (some 8) Try.func26 #[.slice none 0 0] ?_;(refine (want_Check.calls k _ _ ([]:List (S39)) t7 _ ?side1 ?side2 A2.out).mono ?_);(case side1=>exact Kd.C_nil _ _);(case side2=>exact Nat.le_refl _);rintro e w26 ⟨rfl,hb⟩;refine ⟨_,rfl, ?_⟩;replace HO3:=am_ (Kd.R_below (zr_ HO3) hb);replace HO6:=am_ (Kd.R_below (zr_ HO6) hb);replace HB:=am_ (below_step (zl0_ HB) hb);(try clear hb);(try clear hb2);(try clear hk);(try clear hi))|((with_reducible refine gate_callee (f:=25) rfl ?_);refine gl_ (some 9) Try.func25 #[.int .i64 t7] ?_;(with_reducible refine (law1_Num.calls t7 t8 _ A3.out).mono ?_);rintro e w' ⟨rfl,⟨nd,rfl⟩⟩;refine ⟨_,rfl, ?_⟩;obtain ⟨Ao27,co27,eo27⟩:=Kd.R_slice HO6.out;subst eo27))
  go_ret
  exact ⟨by first|rfl|(simp [errW_none,errW_some]<;>rfl)|(simp [*,errW_none,errW_some]<;>rfl),zl0_ HB⟩
 rw [if_pos c5] at H
 have c5b0:((t4.length:Int)==2)=true:=beq_iff_eq.mpr c5
 have c5b1:((t4.length:Int) !=2)=false:=bne_eq_false_iff_eq.mpr c5
 clear c5
 by_cases c6:0<(t4.length:Int)
 rotate_left
 ·rw [if_neg c6] at H
  exact absurd H (by simp)
 rw [if_pos c6] at H
 have c6b0:decide (0<(t4.length:Int))=true:=decide_eq_true c6
 have c6b1:decide (0<t4.length)=true:=decide_eq_true (by omega)
 clear c6
 by_cases c7:((rd_T39 t4 0).f0).toList=([97]:List UInt8)
 rotate_left
 ·rw [if_neg c7] at H
  have c7b0:(((rd_T39 t4 0).f0).toList==([97]:List UInt8))=false:=beq_eq_false_iff_ne.mpr c7
  have c7b1:(((rd_T39 t4 0).f0).toList !=([97]:List UInt8))=true:=bne_iff_ne.mpr c7
  obtain rfl:=Option.some.inj H
  go_enter Try.func23,Try.ntmps23
  go_wp2_with (first|((with_reducible refine gate_dst (N:=5) rfl ?_);(try (refine gate_guard (by rfl) ?_;dsimp only));refine Kd.R_lit k39 _ 39 ?hg (N:=5) ?hd (xs:=([(⟨(⟨#[98]⟩:ByteArray),(⟨#[97]⟩:ByteArray),(⟨0,0,0⟩:S37)⟩:S39),(⟨(⟨#[97]⟩:ByteArray),(⟨#[]⟩:ByteArray),(⟨0,0,0⟩:S37)⟩:S39)]:List (S39))) (inner:=[.string (⟨#[98]⟩:ByteArray), .string (⟨#[97]⟩:ByteArray), .int .i64 0, .int .i64 0, .int .i64 0, .string (⟨#[97]⟩:ByteArray), .string (⟨#[]⟩:ByteArray), .int .i64 0, .int .i64 0, .int .i64 0]) (ok:=fun _=>True) (okp:=fun _=>True) ?hr ?hp (fun _ hk=>hk) trivial (Below.refl _ _) (Nat.le_refl _) (by simp) ?_;(case hd=>rfl);(case hg=>rfl);(case hr=>first|(go_simp;done)|(go_simp;rfl));(case hp=>exact (Reps.c5 (show Kd.M k39 _ _ _ (⟨(⟨#[98]⟩:ByteArray),(⟨#[97]⟩:ByteArray),(⟨0,0,0⟩:S37)⟩:S39) [.string (⟨#[98]⟩:ByteArray), .string (⟨#[97]⟩:ByteArray), .int .i64 0, .int .i64 0, .int .i64 0] from (k39_mkM _ _ _ (⟨(⟨#[98]⟩:ByteArray),(⟨#[97]⟩:ByteArray),(⟨0,0,0⟩:S37)⟩:S39))) (Reps.c5 (show Kd.M k39 _ _ _ (⟨(⟨#[97]⟩:ByteArray),(⟨#[]⟩:ByteArray),(⟨0,0,0⟩:S37)⟩:S39) [.string (⟨#[97]⟩:ByteArray), .string (⟨#[]⟩:ByteArray), .int .i64 0, .int .i64 0, .int .i64 0] from (k39_mkM _ _ _ (⟨(⟨#[97]⟩:ByteArray),(⟨#[]⟩:ByteArray),(⟨0,0,0⟩:S37)⟩:S39))) (Reps.none _ _))));intro v2 w16 ho17 hb hg_ hnew_;clear hg_ hnew_;(first|rw [←Ny1.out] at ho17|(simp only [Int.reduceToNat] at ho17;rw [←Ny1.out] at ho17));have HO3:=am_ (Kd.R_lower ho17 (below_size (zl0_ HB)));replace HB:=am_ (below_step (zl0_ HB) hb);clear hb ho17;obtain ⟨Ao18,co18,eo18⟩:=Kd.R_slice HO3.out;subst eo18)|((with_reducible refine gate_callee (f:=30) rfl ?_);refine gl_ (some 7) Try.func30 #[.slice Ao18 y1.length co18] ?_;(with_reducible refine (want_Top.calls _ _ y1 t4 _ ?side1 ?side2 A1.out).mono ?_);(case side1=>exact zc_ (Kd.R_reads' HO3.out).2.2);(case side2=>exact (Kd.R_reads' HO3.out).2.1);rintro e w19 ⟨v5,rfl,ho0,hb⟩;refine ⟨_,rfl, ?_⟩;have HO6:=am_ (Kd.R_lower (Kd.R_new' ho0 (Kd.R_lt (zr_ HO3))) (below_size (zl0_ HB)));replace HO3:=am_ (Kd.R_elder' (zr_ HO3) (Kd.R_base ho0) hb);replace HB:=am_ (below_step (zl0_ HB) hb);(try clear hb);(try clear hb2);(try clear hk);(try clear hi);(try clear ho0))|((with_reducible refine gate_callee (f:=26) rfl ?_);refine gl_ (some 8) Try.func26 #[.slice none 0 0] ?_;(refine (want_Check.calls k _ _ ([]:List (S39)) t7 _ ?side1 ?side2 A2.out).mono ?_);(case side1=>exact Kd.C_nil _ _);(case side2=>exact Nat.le_refl _);rintro e w20 ⟨rfl,hb⟩;refine ⟨_,rfl, ?_⟩;replace HO3:=am_ (Kd.R_below (zr_ HO3) hb);replace HO6:=am_ (Kd.R_below (zr_ HO6) hb);replace HB:=am_ (below_step (zl0_ HB) hb);(try clear hb);(try clear hb2);(try clear hk);(try clear hi))|((with_reducible refine gate_callee (f:=25) rfl ?_);refine gl_ (some 9) Try.func25 #[.int .i64 t7] ?_;(with_reducible refine (law1_Num.calls t7 t8 _ A3.out).mono ?_);rintro e w' ⟨rfl,⟨nd,rfl⟩⟩;refine ⟨_,rfl, ?_⟩;obtain ⟨Ao21,co21,eo21⟩:=Kd.R_slice HO6.out;subst eo21;have p9:0≤(0:Int):=(by omega);have q9:0<(t4.length:Int):=of_decide_eq_true zq_;obtain ⟨ad9,e9,hx9_0,hx9_1,hx9_2,hx9_3,hx9_4⟩:=at_T39 (Kd.R_reads' HO6.out).2.2 0 p9 q9;cases e9;have qi9:(0<t4.length)=True:=eq_true (by omega);(try rw [show ((0:Int)).toNat=0 from rfl] at hx9_0);(try rw [show 0*5=0 from rfl] at hx9_0);(try rw [Addr.add_zero'] at hx9_0);(try rw [show ((0:Int)).toNat=0 from rfl] at hx9_1);(try rw [show 0*5=0 from rfl] at hx9_1);(try rw [Addr.add_zero'] at hx9_1);(try rw [show ((0:Int)).toNat=0 from rfl] at hx9_2);(try rw [show 0*5=0 from rfl] at hx9_2);(try rw [Addr.add_zero'] at hx9_2);(try rw [show ((0:Int)).toNat=0 from rfl] at hx9_3);(try rw [show 0*5=0 from rfl] at hx9_3);(try rw [Addr.add_zero'] at hx9_3);(try rw [show ((0:Int)).toNat=0 from rfl] at hx9_4);(try rw [show 0*5=0 from rfl] at hx9_4);(try rw [Addr.add_zero'] at hx9_4);replace p9:=eq_true p9;replace q9:=eq_true q9))
  go_ret
  exact ⟨by first|rfl|(simp [errW_none,errW_some]<;>rfl)|(simp [*,errW_none,errW_some]<;>rfl),zl0_ HB⟩
 rw [if_pos c7] at H
 have c7b0:(((rd_T39 t4 0).f0).toList==([97]:List UInt8))=true:=beq_iff_eq.mpr c7
 have c7b1:(((rd_T39 t4 0).f0).toList !=([97]:List UInt8))=false:=bne_eq_false_iff_eq.mpr c7
 clear c7
 replace H:=Option.bind_eq_some_iff.mp H
 obtain ⟨t10,A80,H⟩:=H
 try dsimp only at H
 have A8:=Aside0.mk A80
 clear A80
 obtain rfl:=Option.some.inj H
 go_enter Try.func23,Try.ntmps23
 go_wp2_with (first|((with_reducible refine gate_dst (N:=5) rfl ?_);(try (refine gate_guard (by rfl) ?_;dsimp only));refine Kd.R_lit k39 _ 39 ?hg (N:=5) ?hd (xs:=([(⟨(⟨#[98]⟩:ByteArray),(⟨#[97]⟩:ByteArray),(⟨0,0,0⟩:S37)⟩:S39),(⟨(⟨#[97]⟩:ByteArray),(⟨#[]⟩:ByteArray),(⟨0,0,0⟩:S37)⟩:S39)]:List (S39))) (inner:=[.string (⟨#[98]⟩:ByteArray), .string (⟨#[97]⟩:ByteArray), .int .i64 0, .int .i64 0, .int .i64 0, .string (⟨#[97]⟩:ByteArray), .string (⟨#[]⟩:ByteArray), .int .i64 0, .int .i64 0, .int .i64 0]) (ok:=fun _=>True) (okp:=fun _=>True) ?hr ?hp (fun _ hk=>hk) trivial (Below.refl _ _) (Nat.le_refl _) (by simp) ?_;(case hd=>rfl);(case hg=>rfl);(case hr=>first|(go_simp;done)|(go_simp;rfl));(case hp=>exact (Reps.c5 (show Kd.M k39 _ _ _ (⟨(⟨#[98]⟩:ByteArray),(⟨#[97]⟩:ByteArray),(⟨0,0,0⟩:S37)⟩:S39) [.string (⟨#[98]⟩:ByteArray), .string (⟨#[97]⟩:ByteArray), .int .i64 0, .int .i64 0, .int .i64 0] from (k39_mkM _ _ _ (⟨(⟨#[98]⟩:ByteArray),(⟨#[97]⟩:ByteArray),(⟨0,0,0⟩:S37)⟩:S39))) (Reps.c5 (show Kd.M k39 _ _ _ (⟨(⟨#[97]⟩:ByteArray),(⟨#[]⟩:ByteArray),(⟨0,0,0⟩:S37)⟩:S39) [.string (⟨#[97]⟩:ByteArray), .string (⟨#[]⟩:ByteArray), .int .i64 0, .int .i64 0, .int .i64 0] from (k39_mkM _ _ _ (⟨(⟨#[97]⟩:ByteArray),(⟨#[]⟩:ByteArray),(⟨0,0,0⟩:S37)⟩:S39))) (Reps.none _ _))));intro v2 w9 ho10 hb hg_ hnew_;clear hg_ hnew_;(first|rw [←Ny1.out] at ho10|(simp only [Int.reduceToNat] at ho10;rw [←Ny1.out] at ho10));have HO3:=am_ (Kd.R_lower ho10 (below_size (zl0_ HB)));replace HB:=am_ (below_step (zl0_ HB) hb);clear hb ho10;obtain ⟨Ao11,co11,eo11⟩:=Kd.R_slice HO3.out;subst eo11)|((with_reducible refine gate_callee (f:=30) rfl ?_);refine gl_ (some 7) Try.func30 #[.slice Ao11 y1.length co11] ?_;(with_reducible refine (want_Top.calls _ _ y1 t4 _ ?side1 ?side2 A1.out).mono ?_);(case side1=>exact zc_ (Kd.R_reads' HO3.out).2.2);(case side2=>exact (Kd.R_reads' HO3.out).2.1);rintro e w12 ⟨v5,rfl,ho0,hb⟩;refine ⟨_,rfl, ?_⟩;have HO6:=am_ (Kd.R_lower (Kd.R_new' ho0 (Kd.R_lt (zr_ HO3))) (below_size (zl0_ HB)));replace HO3:=am_ (Kd.R_elder' (zr_ HO3) (Kd.R_base ho0) hb);replace HB:=am_ (below_step (zl0_ HB) hb);(try clear hb);(try clear hb2);(try clear hk);(try clear hi);(try clear ho0))|((with_reducible refine gate_callee (f:=26) rfl ?_);refine gl_ (some 8) Try.func26 #[.slice none 0 0] ?_;(refine (want_Check.calls k _ _ ([]:List (S39)) t7 _ ?side1 ?side2 A2.out).mono ?_);(case side1=>exact Kd.C_nil _ _);(case side2=>exact Nat.le_refl _);rintro e w13 ⟨rfl,hb⟩;refine ⟨_,rfl, ?_⟩;replace HO3:=am_ (Kd.R_below (zr_ HO3) hb);replace HO6:=am_ (Kd.R_below (zr_ HO6) hb);replace HB:=am_ (below_step (zl0_ HB) hb);(try clear hb);(try clear hb2);(try clear hk);(try clear hi))|((with_reducible refine gate_callee (f:=25) rfl ?_);refine gl_ (some 9) Try.func25 #[.int .i64 t7] ?_;(with_reducible refine (law1_Num.calls t7 t8 _ A3.out).mono ?_);rintro e w' ⟨rfl,⟨nd,rfl⟩⟩;refine ⟨_,rfl, ?_⟩;obtain ⟨Ao14,co14,eo14⟩:=Kd.R_slice HO6.out;subst eo14;have p9:0≤(0:Int):=(by omega);have q9:0<(t4.length:Int):=of_decide_eq_true zq_;obtain ⟨ad9,e9,hx9_0,hx9_1,hx9_2,hx9_3,hx9_4⟩:=at_T39 (Kd.R_reads' HO6.out).2.2 0 p9 q9;cases e9;have qi9:(0<t4.length)=True:=eq_true (by omega);(try rw [show ((0:Int)).toNat=0 from rfl] at hx9_0);(try rw [show 0*5=0 from rfl] at hx9_0);(try rw [Addr.add_zero'] at hx9_0);(try rw [show ((0:Int)).toNat=0 from rfl] at hx9_1);(try rw [show 0*5=0 from rfl] at hx9_1);(try rw [Addr.add_zero'] at hx9_1);(try rw [show ((0:Int)).toNat=0 from rfl] at hx9_2);(try rw [show 0*5=0 from rfl] at hx9_2);(try rw [Addr.add_zero'] at hx9_2);(try rw [show ((0:Int)).toNat=0 from rfl] at hx9_3);(try rw [show 0*5=0 from rfl] at hx9_3);(try rw [Addr.add_zero'] at hx9_3);(try rw [show ((0:Int)).toNat=0 from rfl] at hx9_4);(try rw [show 0*5=0 from rfl] at hx9_4);(try rw [Addr.add_zero'] at hx9_4);replace p9:=eq_true p9;replace q9:=eq_true q9)|(go_at_call 27;(with_reducible refine (want_Depth.calls _ _ y1 (⟨#[98]⟩:ByteArray) t10 _ ?side1 ?side2 A8.out).mono ?_);(case side1=>exact zc_ (Kd.R_reads' HO3.out).2.2);(case side2=>exact (Kd.R_reads' HO3.out).2.1);rintro e w15 ⟨rfl,hb⟩;replace HO3:=am_ (Kd.R_below (zr_ HO3) hb);replace HO6:=am_ (Kd.R_below (zr_ HO6) hb);replace HB:=am_ (below_step (zl0_ HB) hb);(try clear hb);(try clear hb2);(try clear hk);(try clear hi)))
 go_ret
 exact ⟨by first|rfl|(simp [errW_none,errW_some]<;>rfl)|(simp [*,errW_none,errW_some]<;>rfl),zl0_ HB⟩
end Go.Proofs.Ytahidkjncljkaaa.Print

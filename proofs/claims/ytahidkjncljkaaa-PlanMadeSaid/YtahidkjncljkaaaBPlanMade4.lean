/- PlanMade: a part -/
import Derived.Test.YtahidkjncljkaaaBPlanMade0
import Derived.Test.YtahidkjncljkaaaBPlanMade1
import Derived.Test.YtahidkjncljkaaaBPlanMade2
import Derived.Test.YtahidkjncljkaaaBPlanMade3
set_option linter.unusedVariables false
set_option linter.unusedSimpArgs false
namespace Go.Proofs.Ytahidkjncljkaaa.Print
open Go.RowKit Go.Proofs.YtahidkjncljkaaaW.PrintWords Go.Proofs.YtahidkjncljkaaaW.PrintLast
theorem ite_iff {α:Type} {p q:Prop} [Decidable p] [Decidable q] (h:p↔q) {a b:α}:(if p then a else b)=if q then a else b:=by
  by_cases hp:p
  · rw [if_pos hp,if_pos (h.1 hp)]
  rw [if_neg hp,if_neg (fun k=>hp (h.2 k))]
theorem r10_Le_eq (a b d a' b' d':Int):r10_Le.f a b d a' b' d'=some (decide (LeP ⟨a,b,d⟩ ⟨a',b',d'⟩)):=by
 unfold r10_Le.f
 by_cases h0:a≤a'<;>by_cases h1:b≤b'<;>simp [h0,h1,leP_iff]
theorem r10_unit_eq (a:Int):r10_unit.f a=some (decide (0≤a∧a≤1099511627776)):=by
  unfold r10_unit.f;by_cases h0:0≤a
  · rw [if_pos (by omega)];simp [h0]
  rw [if_neg (by omega)];simp [h0]
theorem r10_MayVec_eq (a b d:Int):r10_MayVec.f a b d=some (decide (MayP ⟨a,b,d⟩)):=by
 unfold r10_MayVec.f;simp only [r10_unit_eq,Option.bind_some];by_cases h0:0≤a∧a≤1099511627776<;>by_cases h1:0≤b∧b≤1099511627776<;>simp [h0,h1,mayP_iff]
theorem r10_MayName_eq (n:ByteArray):r10_MayName.f n=some (decide (n≠⟨#[]⟩∧n.size≤24)):=by
  unfold r10_MayName.f;by_cases h:n=⟨#[]⟩
  · rw [if_pos (nm_empty.2 h)];simp [h]
  rw [if_neg (fun q=>h (nm_empty.1 q))];simp [h];omega
abbrev Want:=S39
abbrev zWant:Want:=z39
theorem rd_want (l:List Want) (i:Int):rd_T39 l i=l.getD i.toNat zWant:=rfl
theorem rd_wantN (l:List Want) {i:Nat} (h:i<l.length):rd_T39 l (i:Int)=l[i]:=by
 rw [rd_want,Int.toNat_natCast,List.getD_eq_getElem?_getD,List.getElem?_eq_getElem h,Option.getD_some]
def itW (w:Want):Item:=⟨w.f0,w.f1,w.f2,⟨0,0,0⟩,⟨0,0,0⟩,0⟩
def lookW (l:List Want) (n:ByteArray):Option Want:=l.find? (fun x=>x.f0=n)
def wfnd (l:List Want) (n:ByteArray):Int:=fidx (fun x:Want=>x.f0.toList==n.toList) l 0
theorem wlook (l:List Want) (n:ByteArray):look (l.map itW) n=(lookW l n).map itW:=by
  unfold look lookW
  induction l with
  |nil=>rfl
  | cons x l ih =>
    rw [List.map_cons,List.find?_cons,List.find?_cons]
    show (match decide (x.f0=n) with|true=>_|false=>_)=_
    by_cases h:x.f0=n
    · simp [h]
    simp [h,ih]
theorem lookW_mem {l:List Want} {n:ByteArray} {x:Want} (h:lookW l n=some x):x∈l∧x.f0=n:=by
 unfold lookW at h;exact ⟨List.mem_of_find?_eq_some h,by simpa using List.find?_some h⟩
theorem lookW_none {l:List Want} {n:ByteArray}:lookW l n=none↔ ∀x∈l,x.f0≠n:=by
 unfold lookW
 simp
theorem wpred (n:ByteArray):(fun x:Want=>x.f0.toList==n.toList)=(fun x:Want=>decide (x.f0=n)):=by
 funext x;exact nm_beq _ _
theorem wfnd_none {l:List Want} {n:ByteArray} (h:lookW l n=none):wfnd l n= -1:=by
 unfold wfnd;refine fidx_none fun x hx=> ?_
 rw [nm_beq]
 simpa using lookW_none.1 h x hx
theorem wfnd_some {l:List Want} {n:ByteArray} {x:Want} (h:lookW l n=some x): ∃j:Nat,j<l.length∧wfnd l n=j∧l.getD j zWant=x∧x.f0=n∧ ∀m,m<j→(l.getD m zWant).f0≠n:=by
 have h':l.find? (fun x:Want=>x.f0.toList==n.toList)=some x:=by rw [wpred];exact h
 obtain ⟨j,h1,h2,h3,h4,h5⟩:=fidx_some zWant (i:=0) h';refine ⟨j,h1,by unfold wfnd;rw [h2];omega,h3,by simpa [nm_beq] using h4,fun m hm=> ?_⟩
 simpa [nm_beq] using h5 m hm
theorem wfnd_lt (l:List Want) (n:ByteArray):wfnd l n<l.length:=by
 cases h:lookW l n with
 |none=>rw [wfnd_none h];omega
 |some x=>obtain ⟨j,h1,h2,_⟩:=wfnd_some h;omega
theorem wfnd_neg {l:List Want} {n:ByteArray}:wfnd l n<0↔lookW l n=none:=by
 cases h:lookW l n with
 |none=>rw [wfnd_none h];simp
 |some x=>obtain ⟨j,h1,h2,_⟩:=wfnd_some h;simp;omega
theorem wfnd_ge {l:List Want} {n:ByteArray}:0≤wfnd l n↔ ∃x,lookW l n=some x:=by
 cases h:lookW l n with
 |none=>rw [wfnd_none h];simp
 |some x=>obtain ⟨j,h1,h2,_⟩:=wfnd_some h;simp;omega
theorem wfnd_rd {l:List Want} {n:ByteArray} {x:Want} (h:lookW l n=some x):rd_T39 l (wfnd l n)=x:=by
 obtain ⟨j,h1,h2,h3,_⟩:=wfnd_some h;rw [rd_want,h2,Int.toNat_natCast];exact h3
theorem r10_wanted_l0 (l:List Want) (n:ByteArray) (hl:l.length<1000000): ∀(d i:Nat),l.length - i=d→i≤l.length→
    Ev (fun k=>r10_wanted.l0 k l n i) (fidx (fun x:Want=>x.f0.toList==n.toList) (l.drop i) i)
  | 0, i, hd, hi => by
    obtain rfl:i=l.length:=by omega
    rw [List.drop_length];exact Ev.step (fun k=>r10_wanted.l0.eq_2 (k:=k) ..) (Ev.congr (fun k=>if_neg (by omega)) (Ev.now _))
  | d + 1, i, hd, hi => by
    have hlt:i<l.length:=by omega
    rw [fidx_drop _ zWant l i hlt];have hrd:rd_T39 l (i:Int)=l.getD i zWant:=by rw [rd_want,Int.toNat_natCast]
    have e3:wrap64 ((i:Int)+1)=((i+1:Nat):Int):=by rw [w64 (by omega) (by omega)];rfl
    refine Ev.step (fun k=>r10_wanted.l0.eq_2 (k:=k) ..) (Ev.congr (fun k=>by rw [if_pos (show (i:Int)<(l.length:Int) by omega),if_pos (show 0≤(i:Int) by omega),hrd,e3]) ?_);by_cases e:(l.getD i zWant).f0.toList=n.toList
    · rw [if_pos (beq_iff_eq.2 e)]
      exact Ev.congr (fun k=>if_pos e) (Ev.now _)
    rw [if_neg (fun q=>e (beq_iff_eq.1 q))];exact Ev.congr (fun k=>if_neg e) (r10_wanted_l0 l n hl d (i+1) (by omega) (by omega))
theorem r10_wanted_ev (l:List Want) (n:ByteArray) (hl:l.length<1000000):Ev (fun k=>r10_wanted.f k l n) (wfnd l n):=r10_wanted_l0 l n hl _ 0 rfl (by omega)
def depGo (l:List Want):Nat→Int→ByteArray→Int
  |0,_,_=> -1
  | m + 1, d, n => match lookW l n with
    |none=>0
    |some w=>if d+1>(l.length:Int) then -1 else if w.f1=⟨#[]⟩ then d+1 else depGo l m (d+1) w.f1
def depR (l:List Want) (n:ByteArray):Int:=depGo l (l.length+1) 0 n
theorem depGo_succ (l:List Want) (m:Nat) (d:Int) (n:ByteArray):depGo l (m+1) d n=match lookW l n with
 |none=>0
 |some w=>if d+1>(l.length:Int) then -1 else if w.f1=⟨#[]⟩ then d+1 else depGo l m (d+1) w.f1:=rfl
theorem r10_Depth_l0 (l:List Want) (hl:l.length<1000000): ∀(m:Nat) (d:Int) (n:ByteArray),0≤d→d+m=l.length→Ev (fun k=>r10_Depth.l0 k l d (wfnd l n)) (depGo l (m+1) d n)
  | m, d, n, h0, hm => by
    rw [depGo_succ];refine Ev.step (fun k=>r10_Depth.l0.eq_2 (k:=k) ..) ?_;rw [w64 (n:=d+1) (by omega) (by omega)]
    cases h:lookW l n with
    |none=>exact Ev.congr (fun k=>if_neg (by have:=wfnd_neg.2 h;omega)) (Ev.now _)
    | some x =>
      have g0:=wfnd_ge.2 ⟨x,h⟩;have g1:=wfnd_lt l n;rw [wfnd_rd h];dsimp only;by_cases c:d+1>(l.length:Int)
      · rw [if_pos c]
        exact Ev.congr (fun k=>by rw [if_pos g0,if_pos c]) (Ev.now _)
      rw [if_neg c];by_cases e:x.f1=⟨#[]⟩
      · rw [if_pos e]
        exact Ev.congr (fun k=>by rw [if_pos g0,if_neg c,if_pos g0,if_pos g1,if_pos (nm_empty.2 e)]) (Ev.now _)
      rw [if_neg e];refine Ev.congr (fun k=>by rw [if_pos g0,if_neg c,if_pos g0,if_pos g1,if_neg (fun q=>e (nm_empty.1 q))]) (Ev.bind (r10_wanted_ev l x.f1 hl) ?_)
      match m,hm with
      |0,hm=>omega
      |m+1,hm=>exact r10_Depth_l0 l hl m (d+1) x.f1 (by omega) (by omega)
theorem r10_Depth_ev (l:List Want) (n:ByteArray) (hl:l.length<1000000):Ev (fun k=>r10_Depth.f k l n) (depR l n):=by
 unfold r10_Depth.f;exact Ev.bind (r10_wanted_ev l n hl) (r10_Depth_l0 l hl l.length 0 n (by omega) (by omega))
def ParW (l:List Want):Prop:=(∀w∈l,w.f0≠⟨#[]⟩)∧ ∀w∈l,w.f1≠⟨#[]⟩→ ∃x,lookW l w.f1=some x
abbrev ChainW (l:List Want) (n:ByteArray) (us:List ByteArray):Prop:=Chain (l.map itW) n us
theorem ParW.root {l:List Want} (h:ParW l):lookW l ⟨#[]⟩=none:=lookW_none.2 fun x hx e=>h.1 x hx e
theorem chainW_cons {l:List Want} {n:ByteArray} {us:List ByteArray} {x:Want} (h:lookW l n=some x) (k:ChainW l x.f1 us):ChainW l n (n::us):= .cons (x:=itW x) (by rw [wlook,h];rfl) k
theorem chainW_nil {l:List Want} {n:ByteArray} (h:lookW l n=none):ChainW l n []:= .nil (by rw [wlook,h];rfl)
theorem chainW_inv {l:List Want} {n:ByteArray} {us:List ByteArray} (h:ChainW l n us):(lookW l n=none∧us=[])∨ ∃x vs,lookW l n=some x∧us=n::vs∧ChainW l x.f1 vs:=by
  cases h with
  | nil h1 =>
    rw [wlook] at h1;exact .inl ⟨by simpa using h1,rfl⟩
  | @cons _ y vs h1 k =>
    rw [wlook] at h1;obtain ⟨x,hx,rfl⟩:=Option.map_eq_some_iff.1 h1;exact .inr ⟨x,vs,hx,rfl,k⟩
theorem chainW_len {l:List Want} {n:ByteArray} {us:List ByteArray} (h:ChainW l n us):us.length≤l.length:=by
 have:=h.len
 rwa [List.length_map] at this
theorem depGo_chain {l:List Want} (hp:ParW l): ∀(us:List ByteArray) (m:Nat) (d:Int) (n:ByteArray),ChainW l n us→d+us.length≤l.length→us.length≤m→depGo l (m+1) d n=if us=[] then 0 else d+us.length
  | us, m, d, n, h, hd, hm => by
    rw [depGo_succ]
    rcases chainW_inv h with ⟨h0,e0⟩|⟨x,vs,h0,e0,k⟩
    · subst e0
      rw [h0,if_pos rfl]
    subst e0;rw [h0];dsimp only;rw [List.length_cons] at hd hm ⊢;rw [if_neg (show¬d+1>(l.length:Int) by omega),if_neg (show¬(n::vs=[]) by simp)]
    rcases chainW_inv k with ⟨h1,rfl⟩|⟨y,ws,h1,rfl,k1⟩
    · have e:x.f1=⟨#[]⟩:=by
        refine Classical.byContradiction fun q=> ?_
        obtain ⟨z,hz⟩:=hp.2 x (lookW_mem h0).1 q;rw [h1] at hz;cases hz
      rw [if_pos e];rfl
    have e:x.f1≠⟨#[]⟩:=fun q=>by rw [q,hp.root] at h1;cases h1
    rw [if_neg e]
    match m,hm with
    |0,hm=>omega
    | m + 1, hm =>
      rw [depGo_chain hp (x.f1::ws) m (d+1) x.f1 k (by omega) (by omega),if_neg (by simp)]
      omega
theorem depGo_none {l:List Want} (hp:ParW l): ∀(m:Nat) (d:Int) (n:ByteArray),d+m=l.length→(∀us,¬ChainW l n us)→depGo l (m+1) d n= -1
  | m, d, n, hd, h => by
    rw [depGo_succ]
    cases hx:lookW l n with
    |none=>exact absurd (chainW_nil hx) (h [])
    | some x =>
      dsimp only;by_cases c:d+1>(l.length:Int)
      · rw [if_pos c]
      have e:x.f1≠⟨#[]⟩:=fun q=>h [n] (chainW_cons hx (chainW_nil (by rw [q];exact hp.root)))
      rw [if_neg c,if_neg e]
      match m,hd with
      |0,hd=>omega
      |m+1,hd=>exact depGo_none hp m (d+1) x.f1 (by omega) (fun us k=>h _ (chainW_cons hx k))
theorem depR_chain {l:List Want} (hp:ParW l) {n:ByteArray} {us:List ByteArray} (h:ChainW l n us):depR l n=us.length:=by
  have hl:=chainW_len h;unfold depR;rw [depGo_chain hp us l.length 0 n h (by omega) hl];by_cases e:us=[]
  · rw [if_pos e,e];rfl
  rw [if_neg e];omega
theorem depR_none {l:List Want} (hp:ParW l) {n:ByteArray} (h: ∀us,¬ChainW l n us):depR l n= -1:=depGo_none hp _ _ _ (by omega) h
theorem depR_le {l:List Want} (hp:ParW l) (n:ByteArray):depR l n≤l.length:=by
  by_cases h: ∃us,ChainW l n us;rotate_left
  · rw [depR_none hp (fun us k=>h ⟨us,k⟩)];omega
  obtain ⟨us,h⟩:=h;rw [depR_chain hp h];have:=chainW_len h
  omega
theorem depR_some {l:List Want} (hp:ParW l) {n:ByteArray} {x:Want} (hx:lookW l n=some x) (h:0<depR l n):depR l n=depR l x.f1+1∧0≤depR l x.f1∧(x.f1≠⟨#[]⟩→0<depR l x.f1):=by
  by_cases c: ∃us,ChainW l n us
  rotate_left
  · rw [depR_none hp (fun us k => c ⟨us, k⟩)] at h
    omega
  obtain ⟨us,c⟩:=c
  rcases chainW_inv c with ⟨h1,rfl⟩|⟨y,vs,h1,rfl,k⟩
  · rw [hx] at h1;cases h1
  rw [hx] at h1
  obtain rfl:=Option.some.inj h1
  rw [depR_chain hp c,depR_chain hp k,List.length_cons]
  refine ⟨by omega,by omega,fun e=> ?_⟩
  rcases chainW_inv k with ⟨h2,rfl⟩|⟨z,ws,h2,rfl,k2⟩
  · obtain ⟨z, hz⟩ := hp.2 x (lookW_mem hx).1 e
    rw [h2] at hz;cases hz
  rw [List.length_cons];omega
theorem depR_root {l:List Want} (hp:ParW l):depR l ⟨#[]⟩=0:=depR_chain hp (chainW_nil hp.root)
theorem depR_absent {l:List Want} (hp:ParW l) {n:ByteArray} (h:lookW l n=none):depR l n=0:=depR_chain hp (chainW_nil h)
def mayW (w:Want):Bool:=decide ((w.f0≠⟨#[]⟩∧w.f0.size≤24)∧MayP w.f2)
def ph1:List Want→List Want→Int
 |_,[]=>0
 |pre,w::ws=>if mayW w=true then (if (lookW pre w.f0).isSome=true then 3 else ph1 (pre++ [w]) ws) else 1
def sumGo (n:ByteArray):List Want→Vec→Vec
 |[],v=>v
 |w::ws,v=>sumGo n ws (if w.f1=n then vadd v w.f2 else v)
def sumW (l:List Want) (n:ByteArray):Vec:=sumGo n l ⟨0,0,0⟩
def noPar (l:List Want) (w:Want):Bool:=decide (w.f1≠⟨#[]⟩∧lookW l w.f1=none)
def checkR (l:List Want):Int:=
 if l.length>120 then 4 else if ph1 [] l≠0 then ph1 [] l else if l.any (noPar l)=true then 2 else if l.any (fun w=>decide (depR l w.f0<1))=true then 10 else if l.any (fun w=> !decide (LeP (sumW l w.f0) w.f2))=true then 11 else 0
theorem ph1_ok: ∀{ws pre:List Want},ph1 pre ws=0→ ∀w∈ws,mayW w=true
  |[],_,_,w,hw=>by cases hw
  | x :: ws, pre, h, w, hw => by
    unfold ph1 at h;by_cases c:mayW x=true;rotate_left
    · rw [if_neg c] at h;omega
    rw [if_pos c] at h;by_cases e:(lookW pre x.f0).isSome=true
    · rw [if_pos e] at h;omega
    rw [if_neg e] at h
    rcases List.mem_cons.1 hw with rfl|hw
    · exact c
    exact ph1_ok h w hw
theorem ph1_nodup: ∀{ws pre:List Want},ph1 pre ws=0→(pre.map (·.f0)).Nodup→((pre++ws).map (·.f0)).Nodup
  |[],pre,_,hn=>by rwa [List.append_nil]
  | x :: ws, pre, h, hn => by
    unfold ph1 at h;by_cases c:mayW x=true;rotate_left
    · rw [if_neg c] at h;omega
    rw [if_pos c] at h;by_cases e:(lookW pre x.f0).isSome=true
    · rw [if_pos e] at h;omega
    rw [if_neg e] at h
    have q:=ph1_nodup h (by
      rw [List.map_append,List.map_cons,List.map_nil,List.nodup_append];refine ⟨hn,by simp, ?_⟩;intro a ha b hb;obtain ⟨y,hy,rfl⟩:=List.mem_map.1 ha;rw [List.mem_singleton] at hb;subst hb;have hz:lookW pre x.f0=none:=by simpa using e
      exact fun q=>lookW_none.1 hz y hy q)
    rwa [List.append_assoc] at q
theorem ph1_01: ∀(ws pre:List Want),ph1 pre ws=0∨ph1 pre ws=1∨ph1 pre ws=3
  |[],_=> .inl rfl
  | x :: ws, pre => by
    unfold ph1
    split
    rotate_left
    · exact .inr (.inl rfl)
    split
    · exact .inr (.inr rfl)
    exact ph1_01 ws _
theorem mayW_iff {w:Want}:mayW w=true↔(w.f0≠⟨#[]⟩∧w.f0.size≤24)∧MayP w.f2:=by unfold mayW;rw [decide_eq_true_iff]
structure TreeW (l:List Want):Prop where
 len:l.length≤120
 may: ∀w∈l,mayW w=true
 nodup:(l.map (·.f0)).Nodup
 par:ParW l
 dep: ∀w∈l,1≤depR l w.f0
theorem any_false {α:Type} {p:α→Bool} {l:List α}: ¬l.any p=true↔ ∀x∈l,p x=false:=by simp
theorem checkR_tree {l:List Want} (h:checkR l=0∨checkR l=11):TreeW l:=by
  unfold checkR at h;by_cases c0:l.length>120
  · rw [if_pos c0] at h;omega
  rw [if_neg c0] at h;by_cases c1:ph1 [] l≠0
  · rw [if_pos c1] at h
    rcases ph1_01 l [] with q|q|q<;>omega
  rw [if_neg c1] at h;have c1':ph1 [] l=0:=by omega
  by_cases c2:l.any (noPar l)=true
  · rw [if_pos c2] at h;omega
  rw [if_neg c2] at h;by_cases c3:l.any (fun w=>decide (depR l w.f0<1))=true
  · rw [if_pos c3] at h;omega
  have hm:=ph1_ok c1';refine ⟨by omega,hm, ?_,⟨fun w hw=>(mayW_iff.1 (hm w hw)).1.1,fun w hw e=> ?_⟩,fun w hw=> ?_⟩
  · have := ph1_nodup c1' (by simp)
    rwa [List.nil_append] at this
  rotate_left
  · have q := any_false.1 c3 w hw
    rw [decide_eq_false_iff_not] at q
    omega
  have q:=any_false.1 c2 w hw;unfold noPar at q;rw [decide_eq_false_iff_not] at q
  cases hx:lookW l w.f1 with
  |none=>exact absurd ⟨e,hx⟩ q
  |some x=>exact ⟨x,rfl⟩
theorem nx64 {i n:Nat} (h:i<n) (hn:n<1000000):wrap64 ((i:Int)+1)=((i+1:Nat):Int):=by rw [w64 (by omega) (by omega)];rfl
def UptoV (n:Nat) (v:Vec):Prop:= ∀c:Comp,0≤c.of v∧c.of v≤1099511627776*(n:Int)
theorem uptoV_add {n:Nat} {v u:Vec} (h:UptoV n v) (hu:MayP u):UptoV (n+1) (vadd v u):=fun c=>by
 have:=h c;have:=hu c
 rw [of_vadd]
 omega
theorem uptoV_succ {n:Nat} {v:Vec} (h:UptoV n v):UptoV (n+1) v:=fun c=>by have:=h c;omega
theorem add_upto {n:Nat} (hn:n≤1000) {v u:Vec} (h:UptoV n v) (hu:MayP u):r10_Add.f v.f0 v.f1 v.f2 u.f0 u.f1 u.f2=some ((vadd v u).f0,(vadd v u).f1,(vadd v u).f2):=by
 have a:=h .cpu;have b:=h .mem;have d:=h .pods;have a':=hu .cpu;have b':=hu .mem;have d':=hu .pods;simp only [Comp.of] at a b d a' b' d';unfold r10_Add.f;rw [w64 (by omega) (by omega),w64 (by omega) (by omega),w64 (by omega) (by omega)]
 rfl
def badSum (l:List Want) (w:Want):Bool:= !decide (LeP (sumW l w.f0) w.f2)
def badDep (l:List Want) (w:Want):Bool:=decide (depR l w.f0<1)
theorem chk_l4 {l:List Want} (hl:l.length≤120) (hm: ∀w∈l,MayP w.f2) {i:Nat} (hi:i<l.length) {r:Int} (hr:LeP (sumW l l[i].f0) l[i].f2→Ev (fun k=>r10_Check.l3 k l ((i+1:Nat):Int)) r) (hb: ¬LeP (sumW l l[i].f0) l[i].f2→r=11):
    ∀(d j:Nat) (v:Vec),l.length - j=d→j≤l.length→UptoV j v→sumGo l[i].f0 (l.drop j) v=sumW l l[i].f0→Ev (fun k=>r10_Check.l4 k l (i:Int) (j:Int) v.f0 v.f1 v.f2) r
  | 0, j, v, hd, hj, hv, hs => by
    rw [List.drop_of_length_le (by omega)] at hs;unfold sumGo at hs;refine Ev.step (fun k=>r10_Check.l4.eq_2 (k:=k) ..) ?_;rw [rd_wantN l hi,nx64 hi (by omega)];refine Ev.congr (fun k=>by rw [if_neg (by omega),if_pos (by omega),if_pos (by omega),r10_Le_eq]) ?_;simp only [Option.bind_some];by_cases c:LeP (sumW l l[i].f0) l[i].f2
    · exact Ev.congr (fun k=>if_pos (by rw [decide_eq_true_iff,hs];exact c)) (hr c)
    rw [hb c];exact Ev.congr (fun k=>if_neg (by rw [decide_eq_true_iff,hs];exact c)) (Ev.now _)
  | d + 1, j, v, hd, hj, hv, hs => by
    have hlt:j<l.length:=by omega
    rw [List.drop_eq_getElem_cons hlt] at hs;unfold sumGo at hs;refine Ev.step (fun k=>r10_Check.l4.eq_2 (k:=k) ..) ?_;rw [rd_wantN l hi,rd_wantN l hlt,nx64 hlt (by omega)];refine Ev.congr (fun k=>by rw [if_pos (by omega),if_pos (by omega),if_pos (by omega),if_pos (by omega)]) ?_;by_cases c:l[j].f1=l[i].f0
    · rw [if_pos c] at hs
      refine Ev.congr (fun k=>by rw [if_pos (nm_inj.2 c),add_upto (by omega) hv (hm _ (List.getElem_mem hlt))]) ?_
      simp only [Option.bind_some]
      exact chk_l4 hl hm hi hr hb d (j+1) _ (by omega) (by omega) (uptoV_add hv (hm _ (List.getElem_mem hlt))) hs
    rw [if_neg c] at hs;refine Ev.congr (fun k=>if_neg (fun q=>c (nm_inj.1 q))) ?_;exact chk_l4 hl hm hi hr hb d (j+1) v (by omega) (by omega) (uptoV_succ hv) hs
theorem chk_l3 {l:List Want} (hl:l.length≤120) (hm: ∀w∈l,MayP w.f2): ∀(d i:Nat),l.length - i=d→i≤l.length→Ev (fun k=>r10_Check.l3 k l (i:Int)) (if (l.drop i).any (badSum l)=true then 11 else 0)
  | 0, i, hd, hi => by
    rw [List.drop_of_length_le (by omega)];exact Ev.step (fun k=>r10_Check.l3.eq_2 (k:=k) ..) (Ev.congr (fun k=>if_neg (by omega)) (Ev.now _))
  | d + 1, i, hd, hi => by
    have hlt:i<l.length:=by omega
    have next:=chk_l3 hl hm d (i+1) (by omega) (by omega);rw [List.drop_eq_getElem_cons hlt,List.any_cons];refine Ev.step (fun k=>r10_Check.l3.eq_2 (k:=k) ..) (Ev.congr (fun k=>if_pos (by omega)) ?_);refine chk_l4 hl hm hlt (fun c=> ?_) (fun c=> ?_) l.length 0 ⟨0,0,0⟩ (by omega) (by omega) (fun c=>by cases c<;>exact ⟨Int.le_refl _,by simp [Comp.of]⟩) (by rw [List.drop_zero];rfl)
    · rw [show badSum l l[i] = false from by unfold badSum; rw [decide_eq_true c]; rfl, Bool.false_or]
      exact next
    rw [show badSum l l[i]=true from by unfold badSum;rw [decide_eq_false c];rfl,Bool.true_or,if_pos rfl]
theorem chk_l2 {l:List Want} (hl:l.length≤120) {r:Int} (hr:Ev (fun k=>r10_Check.l3 k l 0) r): ∀(d i:Nat),l.length - i=d→i≤l.length→Ev (fun k=>r10_Check.l2 k l (i:Int)) (if (l.drop i).any (badDep l)=true then 10 else r)
  | 0, i, hd, hi => by
    rw [List.drop_of_length_le (by omega)];exact Ev.step (fun k=>r10_Check.l2.eq_2 (k:=k) ..) (Ev.congr (fun k=>if_neg (by omega)) hr)
  | d + 1, i, hd, hi => by
    have hlt:i<l.length:=by omega
    have next:=chk_l2 hl hr d (i+1) (by omega) (by omega);rw [List.drop_eq_getElem_cons hlt,List.any_cons];refine Ev.step (fun k=>r10_Check.l2.eq_2 (k:=k) ..) ?_;rw [rd_wantN l hlt,nx64 hlt (by omega)];refine Ev.congr (fun k=>by rw [if_pos (by omega),if_pos (by omega)]) (Ev.bind (r10_Depth_ev l l[i].f0 (by omega)) ?_);by_cases c:depR l l[i].f0<1
    · rw [show badDep l l[i] = true from decide_eq_true c, Bool.true_or, if_pos rfl]
      exact Ev.congr (fun k=>if_pos c) (Ev.now _)
    rw [show badDep l l[i]=false from decide_eq_false c,Bool.false_or];exact Ev.congr (fun k=>if_neg c) next
theorem chk_l1 {l:List Want} (hl:l.length≤120) {r:Int} (hr:Ev (fun k=>r10_Check.l2 k l 0) r): ∀(d i:Nat),l.length - i=d→i≤l.length→Ev (fun k=>r10_Check.l1 k l (i:Int)) (if (l.drop i).any (noPar l)=true then 2 else r)
  | 0, i, hd, hi => by
    rw [List.drop_of_length_le (by omega)];exact Ev.step (fun k=>r10_Check.l1.eq_2 (k:=k) ..) (Ev.congr (fun k=>if_neg (by omega)) hr)
  | d + 1, i, hd, hi => by
    have hlt:i<l.length:=by omega
    have next:=chk_l1 hl hr d (i+1) (by omega) (by omega);rw [List.drop_eq_getElem_cons hlt,List.any_cons];refine Ev.step (fun k=>r10_Check.l1.eq_2 (k:=k) ..) ?_;rw [rd_wantN l hlt,nx64 hlt (by omega)];refine Ev.congr (fun k=>by rw [if_pos (by omega),if_pos (by omega)]) ?_;by_cases e:l[i].f1=⟨#[]⟩
    · rw [show noPar l l[i] = false from decide_eq_false (fun q => q.1 e), Bool.false_or]
      exact Ev.congr (fun k=>if_pos (nm_empty.2 e)) next
    refine Ev.congr (fun k=>if_neg (fun q=>e (nm_empty.1 q))) (Ev.bind (r10_wanted_ev l l[i].f1 (by omega)) ?_);by_cases c:lookW l l[i].f1=none
    · rw [show noPar l l[i] = true from decide_eq_true ⟨e, c⟩, Bool.true_or, if_pos rfl]
      exact Ev.congr (fun k=>if_pos (wfnd_neg.2 c)) (Ev.now _)
    rw [show noPar l l[i]=false from decide_eq_false (fun q=>c q.2),Bool.false_or];exact Ev.congr (fun k=>if_neg (fun q=>c (wfnd_neg.1 q))) next
theorem take_next {l:List Want} {i:Nat} (h:i<l.length):l.take (i+1)=l.take i++ [l[i]]:=by
 rw [List.take_add_one,List.getElem?_eq_getElem h];rfl
theorem chk_l0 {l:List Want} (hl:l.length≤120) {r:Int} (hr:ph1 [] l=0→Ev (fun k=>r10_Check.l1 k l 0) r): ∀(d i:Nat),l.length - i=d→i≤l.length→ph1 [] l=ph1 (l.take i) (l.drop i)→Ev (fun k=>r10_Check.l0 k l (i:Int)) (if ph1 [] l≠0 then ph1 [] l else r)
  | 0, i, hd, hi, he => by
    rw [List.drop_of_length_le (by omega)] at he;unfold ph1 at he;have he':ph1 [] l=0:=by cases l<;>exact he
    rw [if_neg (by omega)];exact Ev.step (fun k=>r10_Check.l0.eq_2 (k:=k) ..) (Ev.congr (fun k=>if_neg (by omega)) (hr he'))
  | d + 1, i, hd, hi, he => by
    have hlt:i<l.length:=by omega
    have next:=chk_l0 hl hr d (i+1) (by omega) (by omega);rw [List.drop_eq_getElem_cons hlt] at he;have he2:ph1 (l.take i) (l[i]::l.drop (i+1))=if mayW l[i]=true then (if (lookW (l.take i) l[i].f0).isSome=true then 3 else ph1 (l.take i++ [l[i]]) (l.drop (i+1))) else 1:=rfl;rw [he2,←take_next hlt] at he
    have j1: ∀b,b= !mayW l[i]→Ev (fun k=>r10_Check.j1 k l (i:Int) b) (if ph1 [] l≠0 then ph1 [] l else r):=by
      intro b hb;refine Ev.step (fun k=>r10_Check.j1.eq_2 (k:=k) ..) ?_;rw [rd_wantN l hlt,nx64 hlt (by omega),Int.toNat_natCast];by_cases c:mayW l[i]=true;rotate_left
      · rw [if_neg c] at he
        rw [Bool.eq_false_iff.2 c] at hb
        subst hb
        rw [he,if_pos (by decide)]
        exact Ev.congr (fun k=>if_pos rfl) (Ev.now _)
      rw [if_pos c] at he;rw [c] at hb;subst hb;refine Ev.congr (fun k=>by rw [if_neg (by simp),if_pos (by omega),if_pos (by omega),if_pos (by omega)]) (Ev.bind (r10_wanted_ev (l.take i) l[i].f0 (by rw [List.length_take];omega)) ?_);by_cases e:(lookW (l.take i) l[i].f0).isSome=true
      · rw [if_pos e] at he
        rw [he,if_pos (by decide)]
        exact Ev.congr (fun k=>if_pos (wfnd_ge.2 (Option.isSome_iff_exists.1 e))) (Ev.now _)
      rw [if_neg e] at he;exact Ev.congr (fun k=>if_neg (fun q=>e (Option.isSome_iff_exists.2 (wfnd_ge.1 q)))) (next he)
    refine Ev.step (fun k=>r10_Check.l0.eq_2 (k:=k) ..) ?_;rw [rd_wantN l hlt];refine Ev.congr (fun k=>by rw [if_pos (by omega),if_pos (by omega),r10_MayName_eq,r10_MayVec_eq]) ?_;simp only [Option.bind_some];by_cases e:l[i].f0≠⟨#[]⟩∧l[i].f0.size≤24;rotate_left
    · refine Ev.congr (fun k => if_neg (by rw [decide_eq_true_iff]; exact e)) (j1 _ ?_)
      unfold mayW
      rw [decide_eq_false (fun h=>e h.1)];rfl
    refine Ev.congr (fun k=>if_pos (decide_eq_true e)) (j1 _ ?_);unfold mayW;by_cases q:MayP l[i].f2
    · rw [decide_eq_true (show MayP ⟨l[i].f2.f0,l[i].f2.f1,l[i].f2.f2⟩ from q),decide_eq_true ⟨e,q⟩]
    rw [decide_eq_false (show¬MayP ⟨l[i].f2.f0,l[i].f2.f1,l[i].f2.f2⟩ from q),decide_eq_false (fun h=>q h.2)]
theorem r10_Check_ev (l:List Want):Ev (fun k=>r10_Check.f k l) (checkR l):=by
  unfold r10_Check.f checkR;by_cases c:l.length>120
  · rw [if_pos c]
    exact Ev.congr (fun k=>if_pos (by omega)) (Ev.now _)
  rw [if_neg c];refine Ev.congr (fun k=>if_neg (by omega)) ?_;refine chk_l0 (by omega) (fun h0=> ?_) l.length 0 (by omega) (by omega) (by rw [List.take_zero,List.drop_zero]);have hm: ∀w∈l,MayP w.f2:=fun w hw=>(mayW_iff.1 (ph1_ok h0 w hw)).2
  have h3:=chk_l3 (by omega) hm l.length 0 (by omega) (by omega);have h2:=chk_l2 (by omega) h3 l.length 0 (by omega) (by omega);have h1:=chk_l1 (by omega) h2 l.length 0 (by omega) (by omega);rw [List.drop_zero] at h1 h2 h3;exact h1
def bef (l:List Want) (a b:Want):Bool:=decide (depR l a.f0<depR l b.f0)||(decide (depR l a.f0=depR l b.f0) && lt a.f0 b.f0)
def insT (l:List Want) (w:Want) (out:List Want):List Want:=out.takeWhile (fun a=>bef l a w)++w::out.dropWhile (fun a=>bef l a w)
def topGo (l:List Want) (out:List Want):List Want→List Want
 |[]=>out
 |w::ws=>topGo l (insT l w out) ws
def topR (l:List Want):List Want:=topGo l [] l
theorem len_insT (l:List Want) (w:Want) (out:List Want):(insT l w out).length=out.length+1:=by
 unfold insT;have:=congrArg List.length (List.takeWhile_append_dropWhile (p:=fun a=>bef l a w) (l:=out))
 rw [List.length_append] at this;rw [List.length_append,List.length_cons]
 omega
theorem while_at {α:Type} {p:α→Bool}: ∀{out:List α} {j:Nat},j≤out.length→(∀m (h:m<out.length),m<j→p out[m]=true)→(∀h:j<out.length,p out[j]=false)→out.takeWhile p=out.take j∧out.dropWhile p=out.drop j
  |[],0,_,_,_=>⟨rfl,rfl⟩
  |[],j+1,h,_,_=>by simp at h
  | x :: out, 0, _, _, h => by
    have q:=h (by simp);rw [List.getElem_cons_zero] at q;rw [List.takeWhile_cons,List.dropWhile_cons,q];exact ⟨rfl,rfl⟩
  | x :: out, j + 1, hj, h1, h2 => by
    have q:=h1 0 (by simp) (by omega);rw [List.getElem_cons_zero] at q;rw [List.takeWhile_cons,List.dropWhile_cons,q];obtain ⟨a,b⟩:=while_at (p:=p) (out:=out) (j:=j) (by simpa using hj) (fun m h hm=>by have:=h1 (m+1) (by simpa using h) (by omega);simpa using this) (fun h=>by have:=h2 (by simpa using h);simpa using this)
    simp [a,b]
theorem top_put {l out:List Want} (hl:l.length≤1000) (ho:out.length≤1000) {i:Nat} (hi:i<l.length) {j:Nat} (hj:j≤out.length) {r:List Want} (hr:Ev (fun k=>r10_Top.l0 k l (insT l l[i] out) ((i+1:Nat):Int)) r)
  (h1: ∀m (h:m<out.length),m<j→bef l out[m] l[i]=true) (h2: ∀h:j<out.length,bef l out[j] l[i]=false):Ev (fun k=>r10_Top.l0 k l ((([]++out.take j)++ [l[i]])++out.drop j) ((i+1:Nat):Int)) r:=by
 obtain ⟨a,b⟩:=while_at (p:=fun a=>bef l a l[i]) hj h1 h2;unfold insT at hr;rw [a,b] at hr;rw [List.nil_append,List.append_assoc,List.singleton_append];exact hr
theorem top_l1 {l out:List Want} (hl:l.length≤1000) (ho:out.length≤1000) {i:Nat} (hi:i<l.length) {r:List Want} (hr:Ev (fun k=>r10_Top.l0 k l (insT l l[i] out) ((i+1:Nat):Int)) r):
    ∀(d j:Nat),out.length - j=d→j≤out.length→(∀m (h:m<out.length),m<j→bef l out[m] l[i]=true)→Ev (fun k=>r10_Top.l1 k l out (i:Int) (depR l l[i].f0) (j:Int)) r
  | 0, j, hd, hj, h1 => by
    refine Ev.step (fun k=>r10_Top.l1.eq_2 (k:=k) ..) ?_;rw [rd_wantN l hi,nx64 hi (by omega),Int.toNat_natCast];have lt1:([]++out.take j).length≤1000:=by rw [List.nil_append,List.length_take];omega
    have lt2:(out.drop j).length≤1000:=by rw [List.length_drop];omega
    refine Ev.congr (fun k=>by rw [if_neg (by omega),Option.bind_some,if_pos (by omega),if_pos (by omega),Option.bind_some,if_pos (by rw [List.length_nil,List.length_take];omega),Option.bind_some,if_pos (by omega),if_pos (by omega),if_pos (by omega),Option.bind_some,Option.bind_some,if_pos (by rw [List.length_append,List.length_singleton];omega)]) ?_;exact top_put hl ho hi hj hr h1 (fun h=>by omega)
  | d + 1, j, hd, hj, h1 => by
    have hlt:j<out.length:=by omega
    have lt1:([]++out.take j).length≤1000:=by rw [List.nil_append,List.length_take];omega
    have lt2:(out.drop j).length≤1000:=by rw [List.length_drop];omega
    have next:bef l out[j] l[i]=true→Ev (fun k=>r10_Top.l1 k l out (i:Int) (depR l l[i].f0) ((j+1:Nat):Int)) r:=fun hb=>top_l1 hl ho hi hr d (j+1) (by omega) (by omega) (fun m h hm=>by
      by_cases e:m=j
      · subst e;exact hb
      exact h1 m h (by omega))
    refine Ev.step (fun k=>r10_Top.l1.eq_2 (k:=k) ..) ?_;rw [rd_wantN l hi,rd_wantN out hlt,nx64 hi (by omega),nx64 hlt (by omega),Int.toNat_natCast];refine Ev.congr (fun k=>by rw [if_pos (by omega),if_pos (by omega)]) (Ev.bind (r10_Depth_ev l out[j].f0 (by omega)) ?_);by_cases c1:depR l out[j].f0<depR l l[i].f0
    · exact Ev.congr (fun k=>if_pos c1) (next (by unfold bef;rw [decide_eq_true c1];rfl))
    refine Ev.congr (fun k=>if_neg c1) (Ev.bind (r10_Depth_ev l out[j].f0 (by omega)) ?_);by_cases c2:depR l out[j].f0=depR l l[i].f0;rotate_left
    · refine Ev.congr (fun k => by rw [if_neg c2, Option.bind_some, if_pos (by omega), Option.bind_some, if_pos (by rw [List.length_nil, List.length_take]; omega), Option.bind_some, if_pos (by omega), if_pos (by omega), if_pos (by omega), Option.bind_some, Option.bind_some, if_pos (by rw [List.length_append, List.length_singleton]; omega)]) ?_
      exact top_put hl ho hi hj hr h1 (fun h=>by unfold bef;rw [decide_eq_false c1,decide_eq_false c2];simp)
    refine Ev.congr (fun k=>by rw [if_pos c2,if_pos (by omega),if_pos (by omega)]) ?_;by_cases c3:lt out[j].f0 l[i].f0=true
    · exact Ev.congr (fun k=>if_pos (show Op.bytesLess out[j].f0.toList l[i].f0.toList=true from c3)) (next (by unfold bef;rw [decide_eq_true c2,c3];simp))
    refine Ev.congr (fun k=>by rw [if_neg (show¬Op.bytesLess out[j].f0.toList l[i].f0.toList=true from c3),Option.bind_some,if_pos (by omega),Option.bind_some,if_pos (by rw [List.length_nil,List.length_take];omega),Option.bind_some,if_pos (by omega),Option.bind_some,Option.bind_some,if_pos (by rw [List.length_append,List.length_singleton];omega)]) ?_;exact top_put hl ho hi hj hr h1 (fun h=>by unfold bef;rw [decide_eq_false c1,Bool.eq_false_iff.2 c3];simp)
theorem top_l0 {l:List Want} (hl:l.length≤500): ∀(d i:Nat) (out:List Want),l.length - i=d→i≤l.length→out.length=i→Ev (fun k=>r10_Top.l0 k l out (i:Int)) (topGo l out (l.drop i))
  | 0, i, out, hd, hi, ho => by
    rw [List.drop_of_length_le (by omega)];exact Ev.step (fun k=>r10_Top.l0.eq_2 (k:=k) ..) (Ev.congr (fun k=>if_neg (by omega)) (Ev.now _))
  | d + 1, i, out, hd, hi, ho => by
    have hlt:i<l.length:=by omega
    have next:=top_l0 hl d (i+1) (insT l l[i] out) (by omega) (by omega) (by rw [len_insT];omega);rw [List.drop_eq_getElem_cons hlt];refine Ev.step (fun k=>r10_Top.l0.eq_2 (k:=k) ..) ?_;rw [rd_wantN l hlt];refine Ev.congr (fun k=>by rw [if_pos (by omega),if_pos (by omega)]) (Ev.bind (r10_Depth_ev l l[i].f0 (by omega)) ?_);exact top_l1 (by omega) (by omega) hlt next out.length 0 (by omega) (by omega) (fun m h hm=>by omega)
theorem r10_Top_ev {l:List Want} (hl:l.length≤500):Ev (fun k=>r10_Top.f k l) (topR l):=by
 have h:=top_l0 hl l.length 0 [] (by omega) (by omega) rfl;rw [List.drop_zero] at h;exact h
theorem bef_irrefl (l:List Want) (a:Want):bef l a a=false:=by unfold bef;rw [decide_eq_false (by omega),lt_irrefl];simp
theorem bef_iff {l:List Want} {a b:Want}:bef l a b=true↔depR l a.f0<depR l b.f0∨(depR l a.f0=depR l b.f0∧lt a.f0 b.f0=true):=by unfold bef;simp
theorem bef_trans {l:List Want} {a b c:Want} (h:bef l a b=true) (k:bef l b c=true):bef l a c=true:=by
  rw [bef_iff] at h k ⊢
  rcases h with h|⟨h,h'⟩<;>rcases k with k|⟨k,k'⟩
  · exact .inl (by omega)
  · exact .inl (by omega)
  · exact .inl (by omega)
  exact .inr ⟨by omega,lt_trans h' k'⟩
theorem bef_total {l:List Want} {a b:Want} (h:bef l a b=false) (hn:a.f0≠b.f0):bef l b a=true:=by
  rw [←Bool.not_eq_true,bef_iff] at h;rw [bef_iff];by_cases e:depR l a.f0=depR l b.f0;rotate_left
  · exact .inl (by have: ¬depR l a.f0<depR l b.f0:=fun q=>h (.inl q);omega)
  refine .inr ⟨e.symm,lt_total ?_ hn⟩;rw [←Bool.not_eq_true];exact fun q=>h (.inr ⟨e,q⟩)
theorem insT_perm (l:List Want) (w:Want) (out:List Want):(insT l w out).Perm (w::out):=by
 unfold insT;have:=List.perm_middle (a:=w) (l₁:=out.takeWhile (fun a=>bef l a w)) (l₂:=out.dropWhile (fun a=>bef l a w))
 rwa [List.takeWhile_append_dropWhile] at this
theorem topGo_perm (l:List Want): ∀(ws out:List Want),(topGo l out ws).Perm (out++ws)
  |[],out=>by rw [List.append_nil];exact .refl _
  | w :: ws, out => by
    unfold topGo;refine (topGo_perm l ws _).trans ?_;refine ((insT_perm l w out).append_right ws).trans ?_;exact List.perm_middle.symm
theorem topR_perm (l:List Want):(topR l).Perm l:=topGo_perm l l []
theorem insT_sorted {l:List Want} {w:Want} {out:List Want} (h:out.Pairwise (fun a b=>bef l a b=true)) (hn: ∀a∈out,a.f0≠w.f0):(insT l w out).Pairwise (fun a b=>bef l a b=true):=by
  induction out with
  |nil=>simp [insT]
  | cons x out ih =>
    rw [List.pairwise_cons] at h;unfold insT;rw [List.takeWhile_cons,List.dropWhile_cons];by_cases c:bef l x w=true
    · rw [c]
      show (x::insT l w out).Pairwise _
      rw [List.pairwise_cons]
      refine ⟨fun a ha=> ?_,ih h.2 (fun a ha=>hn a (by simp [ha]))⟩
      rcases List.mem_cons.1 ((insT_perm l w out).mem_iff.1 ha) with rfl|ha
      · exact c
      exact h.1 a ha
    rw [Bool.eq_false_iff.2 c]
    show (w::x::out).Pairwise _
    have hw:=bef_total (Bool.eq_false_iff.2 c) (hn x (by simp));rw [List.pairwise_cons,List.pairwise_cons];refine ⟨fun a ha=> ?_,h⟩
    rcases List.mem_cons.1 ha with rfl|ha
    · exact hw
    exact bef_trans hw (h.1 a ha)
theorem topGo_sorted {l:List Want}: ∀{ws out:List Want},out.Pairwise (fun a b=>bef l a b=true)→((out++ws).map (·.f0)).Nodup→(topGo l out ws).Pairwise (fun a b=>bef l a b=true)
  |[],out,h,_=>h
  | w :: ws, out, h, hn => by
    unfold topGo;have hn2:=hn;rw [List.map_append,List.map_cons,List.nodup_append] at hn2;refine topGo_sorted (insT_sorted h (fun a ha q=>hn2.2.2 a.f0 (List.mem_map_of_mem ha) w.f0 (by simp) q)) ?_;refine (((insT_perm l w out).append_right ws).map _).nodup_iff.2 ?_;exact ((List.perm_middle (a:=w) (l₁:=out) (l₂:=ws)).map _).nodup_iff.1 hn
theorem topR_sorted {l:List Want} (hn:(l.map (·.f0)).Nodup):(topR l).Pairwise (fun a b=>bef l a b=true):=topGo_sorted (by simp) (by simpa using hn)
theorem top_unique {l t:List Want} (hn:(l.map (·.f0)).Nodup) (hp:t.Perm l) (hs:t.Pairwise (fun a b=>bef l a b=true)):t=topR l:=by
 refine List.Perm.eq_of_pairwise (le:=fun a b=>bef l a b=true) ?_ hs (topR_sorted hn) (hp.trans (topR_perm l).symm)
 intro a b _ _ h1 h2
 have:=bef_trans h1 h2
 rw [bef_irrefl] at this
 cases this
theorem look_map {f:Item→Item} (hf: ∀x,(f x).f0=x.f0) (l:List Item) (n:ByteArray):look (l.map f) n=(look l n).map f:=by
 unfold look
 rw [List.find?_map]
 congr 2
 funext x
 simp [hf]
theorem Chain.map {f:Item→Item} (hf: ∀x,(f x).f0=x.f0) (hp: ∀x,(f x).f1=x.f1) {l:List Item} {n:ByteArray} {us:List ByteArray} (h:Chain l n us):Chain (l.map f) n us:=by
 induction h with
 |nil h=>exact .nil (by rw [look_map hf,h];rfl)
 |@cons n x us h k ih=>exact .cons (x:=f x) (by rw [look_map hf,h];rfl) (by rw [hp];exact ih)
theorem up_self {l:List Item} {n:ByteArray} {x:Item} (h:look l n=some x):n∈up l n:=by
 unfold up;rw [upGo_some h]
 simp
theorem chain_kids {l:List Item} (hl:RightP l) {n:ByteArray} {us:List ByteArray} (h:Chain l n us) (v:Int) {x:Item} (hx:x∈l):
    sumBy (fun y=>if y.f1=x.f0∧y.f0∈us then v else 0) l=if x.f0∈us∧x.f0≠n then v else 0:=by
  induction h with
  |nil _=>rw [sumBy_zero (fun y _=>by simp)];simp
  | @cons n z us h k ih =>
    obtain ⟨hz,rfl⟩:=look_mem h
    have hnd:=(Chain.cons h k).nodup
    rw [List.nodup_cons] at hnd
    have e:sumBy (fun y=>if y.f1=x.f0∧y.f0∈z.f0::us then v else 0) l=sumBy (fun y=>(if y.f0=z.f0 then (if z.f1=x.f0 then v else 0) else 0)+(if y.f1=x.f0∧y.f0∈us then v else 0)) l:=by
      refine sumBy_congr fun y hy=> ?_
      by_cases e1:y.f0=z.f0
      rotate_left
      · simp [e1]
      have:=hl.eq_of hy hz e1
      subst this
      by_cases e2:y.f1=x.f0<;>simp [e2,hnd.1]
    rw [e,sumBy_add,ih,sumBy_one hl.nodup hz]
    by_cases e2:z.f1=x.f0
    rotate_left
    · by_cases e3 : x.f0 = z.f0
      · simp [e2, e3, hnd.1]
        exact fun q=>absurd (q.trans e3.symm) e2
      have e4:x.f0≠z.f1:=fun q=>e2 q.symm
      simp [e2,e3,e4]
    have hm:x.f0∈us:=by
      rw [e2] at k
      cases k with
      |nil k=>rw [hl.look hx] at k;cases k
      |cons _ _=>simp
    have hne:x.f0≠z.f0:=fun q=>hnd.1 (by rw [←q];exact hm)
    simp [e2,hm,hne]
def admF (us:List ByteArray) (n:ByteArray) (v:Vec) (x:Item):Item:=⟨x.f0,x.f1,x.f2,if x.f0=n then vadd x.f3 v else x.f3,if x.f0∈us then vadd x.f4 v else x.f4,x.f5⟩
def admL (l:List Item) (n:ByteArray) (v:Vec):List Item:=l.map (admF (up l n) n v)
theorem csum_adm {l:List Item} (hl:RightP l) (c:Comp) (n:ByteArray) (v:Vec) {x:Item} (hx:x∈l):
  csum c (admL l n v) x.f0=csum c l x.f0+if x.f0∈up l n∧x.f0≠n then c.of v else 0:=by
 unfold csum admL;rw [sumBy_map,←chain_kids hl (hl.chainAll n) (c.of v) hx,←sumBy_add];refine sumBy_congr fun y hy=> ?_
 simp only [admF];by_cases e1:y.f1=x.f0<;>by_cases e2:y.f0∈up l n<;>simp [e1,e2,of_vadd]
theorem adm_right {l:List Item} (hl:RightP l) {n:ByteArray} (v:Vec) (hin: ∃x,look l n=some x)
    (hown: ∀x∈l,x.f0=n→MayP (vadd x.f3 v)) (hsub: ∀x∈l,x.f0∈up l n→MayP (vadd x.f4 v)) (hfit: ∀x∈l,x.f0∈up l n→LeP (vadd x.f4 v) x.f2):RightP (admL l n v) where
  len:=by unfold admL;rw [List.length_map];exact hl.len
  ok:=by
    intro y hy
    obtain ⟨x,hx,rfl⟩:=List.mem_map.1 hy
    have k:=hl.ok x hx
    refine ⟨k.name,k.size,k.lim, ?_, ?_, ?_,k.ver⟩
    · show MayP (if x.f0 = n then vadd x.f3 v else x.f3)
      split
      · exact hown x hx (by assumption)
      exact k.own
    · show MayP (if x.f0 ∈ up l n then vadd x.f4 v else x.f4)
      split
      · exact hsub x hx (by assumption)
      exact k.sub
    show LeP (if x.f0∈up l n then vadd x.f4 v else x.f4) x.f2
    split
    · exact hfit x hx (by assumption)
    exact k.fit
  sorted:=by
    unfold admL
    rw [List.pairwise_map]
    exact hl.sorted
  par:=by
    intro y hy
    obtain ⟨x,hx,rfl⟩:=List.mem_map.1 hy
    rcases hl.par x hx with h|⟨z,h⟩
    · exact .inl h
    exact .inr ⟨_,by unfold admL;rw [look_map (f:=admF (up l n) n v) (fun _=>rfl)];show (look l x.f1).map _=_;rw [h];rfl⟩
  sum:=by
    intro c y hy
    obtain ⟨x,hx,rfl⟩:=List.mem_map.1 hy
    show c.of (if x.f0∈up l n then vadd x.f4 v else x.f4)=c.of (if x.f0=n then vadd x.f3 v else x.f3)+csum c (admL l n v) x.f0
    rw [csum_adm hl c n v hx]
    have hs:=hl.sum c x hx
    by_cases e:x.f0=n
    rotate_left
    · by_cases hm : x.f0 ∈ up l n
      · simp [e,hm,of_vadd];omega
      simp [e,hm];omega
    have hm:x.f0∈up l n:=by
      obtain ⟨z,hz⟩:=hin
      rw [e];exact up_self hz
    simp [e] at hm ⊢
    rw [if_pos hm,of_vadd,of_vadd,hs,e];omega
  chain:=by
    intro y hy
    obtain ⟨x,hx,rfl⟩:=List.mem_map.1 hy
    obtain ⟨us,h⟩:=hl.chain x hx
    exact ⟨us,h.map (f:=admF (up l n) n v) (fun _=>rfl) (fun _=>rfl)⟩
def insL (l:List Item) (it:Item):List Item:=l.takeWhile (fun x=>lt x.f0 it.f0)++it::l.dropWhile (fun x=>lt x.f0 it.f0)
theorem look_ins (a b:List Item) (it:Item) (n:ByteArray) (h:look (a++b) it.f0=none):look (a++it::b) n=if n=it.f0 then some it else look (a++b) n:=by
  unfold look at h ⊢;rw [List.find?_append] at h ⊢;rw [List.find?_append,List.find?_cons];by_cases e:it.f0=n;rotate_left
  · have e' : n ≠ it.f0 := fun q => e q.symm
    simp [e,e']
  subst e
  cases ha:a.find? (fun x=>decide (x.f0=it.f0)) with
  |some y=>rw [ha] at h;simp at h
  |none=>simp
theorem insL_eq (l:List Item) (it:Item): ∃a b,l=a++b∧insL l it=a++it::b∧(∀x∈a,lt x.f0 it.f0=true)∧(∀x t,b=x::t→lt x.f0 it.f0=false):=by
  refine ⟨l.takeWhile (fun x=>lt x.f0 it.f0),l.dropWhile (fun x=>lt x.f0 it.f0),(List.takeWhile_append_dropWhile).symm,rfl,fun x hx=> ?_,fun x t e=> ?_⟩
  · exact List.all_eq_true.1 (List.all_takeWhile (p:=fun x:Item=>lt x.f0 it.f0) (l:=l)) x hx
  have:=List.head?_dropWhile_not (fun x:Item=>lt x.f0 it.f0) l
  rw [e] at this
  simpa using this
theorem csum_ins (c:Comp) (a b:List Item) (it:Item) (n:ByteArray):csum c (a++it::b) n=csum c (a++b) n+if it.f1=n then c.of it.f4 else 0:=by
 unfold csum;rw [sumBy_append,sumBy_append,sumBy_cons];omega
theorem ins_right {l:List Item} (hl:RightP l) {it:Item} (hi:ItemOK it) (h0: ∀c:Comp,c.of it.f3=0∧c.of it.f4=0) (hn:look l it.f0=none)
    (hp:it.f1=⟨#[]⟩∨ ∃y,look l it.f1=some y) (hlen:l.length<120):RightP (insL l it):=by
  obtain ⟨a,b,e,e',ha,hb⟩:=insL_eq l it;rw [e'];subst e;have hlk:=fun n=>look_ins a b it n hn
  have hmem: ∀x,x∈a++it::b↔x=it∨x∈a++b:=fun x=>by simp;constructor<;>(intro h;rcases h with h|h|h<;>simp [h])
  have hnew: ∀m y,look (a++b) m=some y→m≠it.f0:=fun m y h q=>by rw [q,hn] at h;cases h
  have hne:it.f0≠⟨#[]⟩:=hi.name
  have hpar: ∀x∈a++b,x.f1≠it.f0:=fun x hx q=>by
    rcases hl.par x hx with h|⟨y,h⟩
    · exact hne (q.symm.trans h)
    exact hnew _ _ h q
  have hch: ∀{n us},Chain (a++b) n us→n≠it.f0→Chain (a++it::b) n us:=by
    intro n us h
    induction h with
    |nil h=>intro q;exact .nil (by rw [hlk,if_neg q];exact h)
    | @cons n x us h k ih =>
      intro q;exact .cons (x:=x) (by rw [hlk,if_neg q];exact h) (ih (hpar x (look_mem h).1))
  have hip:it.f1≠it.f0:=by
    rcases hp with h|⟨y,h⟩
    · rw [h];exact fun q=>hne q.symm
    exact hnew _ _ h
  refine ⟨?_, ?_, ?_, ?_, ?_, ?_⟩
  · simp at hlen ⊢;omega
  · intro x hx
    rcases (hmem x).1 hx with rfl|hx
    · exact hi
    exact hl.ok x hx
  · have hs := hl.sorted
    rw [List.pairwise_append] at hs ⊢
    obtain ⟨h1,h2,h3⟩:=hs
    have hbx: ∀y∈b,lt it.f0 y.f0=true:=by
      intro y hy
      cases b with
      |nil=>cases hy
      | cons x t =>
        have hx:lt it.f0 x.f0=true:=lt_total (hb x t rfl) (fun q=>look_none.1 hn x (by simp) q)
        rcases List.mem_cons.1 hy with rfl|hy
        · exact hx
        exact lt_trans hx ((List.pairwise_cons.1 h2).1 y hy)
    refine ⟨h1,List.pairwise_cons.2 ⟨hbx,h2⟩,fun x hx y hy=> ?_⟩
    rcases List.mem_cons.1 hy with rfl|hy
    · exact ha x hx
    exact h3 x hx y hy
  · intro x hx
    rcases (hmem x).1 hx with rfl|hx
    · rcases hp with h | ⟨y, h⟩
      · exact .inl h
      exact .inr ⟨y,by rw [hlk,if_neg hip];exact h⟩
    rcases hl.par x hx with h|⟨y,h⟩
    · exact .inl h
    exact .inr ⟨y,by rw [hlk,if_neg (hpar x hx)];exact h⟩
  · intro c x hx
    rw [csum_ins,(h0 c).2,ite_self,Int.add_zero]
    rcases (hmem x).1 hx with rfl|hx
    rotate_left
    · exact hl.sum c x hx
    rw [(h0 c).1,(h0 c).2]
    unfold csum
    rw [sumBy_zero (fun y hy=>if_neg (hpar y hy))];rfl
  intro x hx
  rcases (hmem x).1 hx with rfl|hx
  · have := hch (hl.chainAll x.f1) hip
    exact ⟨_, .cons (x:=x) (by rw [hlk,if_pos rfl]) this⟩
  obtain ⟨us,h⟩:=hl.chain x hx;exact ⟨us,hch h (fun q=>look_none.1 hn x hx q)⟩
end Go.Proofs.Ytahidkjncljkaaa.Print

namespace Go.Proofs.Ytahidkjncljkaaa.Print
open Go.RowKit Go.Proofs.YtahidkjncljkaaaW.PrintWords Go.Proofs.YtahidkjncljkaaaW.PrintLast Go.Proofs.YtahidkjncljkaaaW.PrintMore
attribute [local go_sem] max2_int min2_int max_two min_two max_three min_three max_four min_four

def r10_no.f (a0:Int):Option ((List (S79))×Int):=some (([]:List (S79)),a0)
set_option maxHeartbeats 8000000 in
set_option maxRecDepth 100000 in
theorem r10_no.calls (a0:Int) (r1:List (S79)) (r2:Int) (w:World) (h:r10_no.f a0=some (r1,r2)):
  Calls Try.prog 101 #[.int .i64 a0] w fun e w'=> ∃v0_:Value,e= .returned (.agg #[v0_, .int .i64 r2])∧Kd.R k79 79 w' w.heap.size (fun _=>True) v0_ r1∧Below w.heap.size w w':=by
 have hu73:=Try.underlying73;have HB:=am_ (Below.refl w.heap.size w);have H:(some (([]:List (S79)),a0))=some (r1,r2):=h;clear h;simp only [Option.some.injEq,Prod.mk.injEq] at H;obtain ⟨rfl,rfl⟩:=H;go_enter Try.func101,Try.ntmps101;go_wp2_with (first|((with_reducible refine gate_dst (N:=2) rfl ?_);refine bx_ (N:=2) (cs:=#[.slice none 0 0, .int .i64 0]) (t:=73) ?_;intro gb1 hg w2 hbox hb;have BK1:=am_ (hbox);have GE1:=am_ ((zg0_ HB hg:w.heap.size≤gb1));replace HB:=am_ (below_step (zl0_ HB) hb);clear hb hbox hg;obtain ⟨hcz3_0,hcz3_1⟩:=x2_ BK1;have hfz3_0:=blk_frozen BK1.out 0;have hfz3_1:=blk_frozen BK1.out 1))
 refine bodyPost_ret (results_cell_row rfl _ _ gb1 73 #[.slice none 0 0, .int .i64 a0] (0,0) _ rfl (zw_ BK1) Try.underlying73 rfl (by kernel_rfl)) rfl ?_;exact ⟨_,by first|rfl|(simp [errW_none,errW_some]<;>rfl)|(simp [*,errW_none,errW_some]<;>rfl),by first|exact Kd.R_nil _ _ _ _ _|exact Kd.N_nil _ _ _ _ _|exact Kd.V_nil _ _ _ _ _|exact Kd.Q_nil _ _ _ _ _|exact Kd.S_nil _ _ _ _ _,zl1_ HB GE1⟩

def r10_copied.f (l0:List (S79)):Option ((List (S79))):=(some (([]:List (S79)):List (S79))).bind fun y1=>(if y1.length+l0.length<1256584717458 then (some (y1++l0)) else (none))
set_option maxHeartbeats 8000000 in
set_option maxRecDepth 100000 in
theorem r10_copied.calls (A0:Option Addr) (c0:Nat) (l0:List (S79)) (r:List (S79)) (w:World) (hr0:Kd.C k79 w A0 l0.length l0) (hc0:l0.length≤c0) (h:r10_copied.f l0=some r):
  Calls Try.prog 119 #[.slice A0 l0.length c0] w fun e w'=> ∃v0_:Value,e= .returned (v0_)∧Kd.R k79 79 w' w.heap.size (fun _=>True) v0_ r∧Below w.heap.size w w':=by
 have HR0:=Aside0.mk hr0;have HC0:=Aside0.mk hc0;clear hr0 hc0;have HB:=am_ (Below.refl w.heap.size w);have H:((some (([]:List (S79)):List (S79))).bind fun y1=>(if y1.length+l0.length<1256584717458 then (some (y1++l0)) else (none)))=some r:=h;clear h;obtain ⟨y1,hy1⟩: ∃y_:List (S79),y_=(([]:List (S79))):=⟨_,rfl⟩;(first|replace H:=zsb_ hy1 H|rw [←hy1] at H);have Ny1:=Aside0.mk hy1;clear hy1;by_cases c2:y1.length+l0.length<1256584717458;rotate_left
 ·rw [if_neg c2] at H;exact absurd H (by simp)

 rw [if_pos c2] at H;have LMc2:=Aside0.mk c2;clear c2;obtain ⟨y4,hy4⟩: ∃y_:List (S79),y_=(y1++l0):=⟨_,rfl⟩;(first|replace H:=zsb_ hy4 H|rw [←hy4] at H);have Ny4:=Aside0.mk hy4;clear hy4;obtain rfl:=Option.some.inj H;go_enter Try.func119,Try.ntmps119
 go_wp2_with (first|((with_reducible refine gate_dst (N:=3) rfl ?_);refine Kd.R_lit k79 _ 79 ?hg (N:=3) ?hd (xs:=([]:List (S79))) (inner:=[]) (ok:=fun _=>True) (okp:=fun _=>True) ?hr ?hp (fun _ hk=>hk) trivial (Below.refl _ _) (Nat.le_refl _) (by simp) ?_;(case hd=>rfl);(case hg=>rfl);(case hr=>first|(go_simp;done)|(go_simp;rfl));(case hp=>exact (Reps.none _ _));intro v2 w3 ho4 hb hg_ hnew_;clear hg_ hnew_;(first|rw [←Ny1.out] at ho4|(simp only [Int.reduceToNat] at ho4;rw [←Ny1.out] at ho4));have HO3:=am_ (Kd.R_lower ho4 (below_size (zl0_ HB)));replace HB:=am_ (below_step (zl0_ HB) hb);clear hb ho4)|((with_reducible refine gate_builtin (b:= .append) (xs:=#[.tmp 3, .tmp 4]) rfl ?_);at_builtin;refine Kd.R_append_rows k79 (w0:=w) w.heap.size rfl (.tmp 3) (.tmp 4) 46 79 (.agg #[(.string ⟨#[]⟩),(.string ⟨#[]⟩),(.int .i64 0),(.int .i64 0),(.int .i64 0),(.int .i64 0),(.int .i64 0),(.int .i64 0),(.int .i64 0),(.int .i64 0),(.int .i64 0),(.int .i64 0)]) 112 rfl Try.underlying46 info79 rfl (by decide) (by omega) v2 y1 l0 _ _ _ (fun _=>True) (fun _=>False) rfl rfl ?aO ?aR (fun _ _ h=>h) (fun _ h=>h.elim) ?aF ?aB ?aS ?aL ?_;(case aR=>repeat (first|exact (Kd.C_below HR0.out HB.out)|(with_reducible refine Kd.C_alloc ?_ _)|(with_reducible refine Kd.C_drewN ?_ _)|(with_reducible refine Kd.C_drew ?_)));(case aB=>exact (zl0_ HB));(case aF=>exact (fun _ _=>trivial));(case aO=>exact (zr_ HO3));(case aS=>exact (below_size (zl0_ HB)));(case aL=>have:=LMc2.out;omega);intro v5 w5 ho hb hg hat;rw [←Ny4.out] at ho;have n0_:=am_ (hb);have n1_:=am_ (ho);clear HB;clear HO3;have HB:=n0_;have HO6:=n1_;clear n0_ n1_;clear ho hb hg hat))
 go_ret
 exact ⟨_,by first|rfl|(simp [errW_none,errW_some]<;>rfl)|(simp [*,errW_none,errW_some]<;>rfl),zr_ HO6,zl0_ HB⟩
def r10_Admit.l0:Nat→ByteArray→List ByteArray→List (S79)→Int→Int→Int→Int→Option ((List (S79))×Int)
 |0,_,_,_,_,_,_,_=>none
 |k+1,x1,x7,x8,x9,x2000,x2001,x2002=>if x9<(x7.length:Int) then (if 0≤x9 then ((r10_Find.f k x8 (rdOf ByteArray.empty x7 x9)).bind fun t25=>(if 0≤t25 then (if t25<(x8.length:Int) then ((r10_Add.f ((rd_T79 x8 t25).f4.f0) ((rd_T79 x8 t25).f4.f1) ((rd_T79 x8 t25).f4.f2) x2000 x2001 x2002).bind fun bt27=>((some (x8.set (t25:Int).toNat (⟨(rd_T79 x8 t25).f0,(rd_T79 x8 t25).f1,(⟨(rd_T79 x8 t25).f2.f0,(rd_T79 x8 t25).f2.f1,(rd_T79 x8 t25).f2.f2⟩:S37),(⟨(rd_T79 x8 t25).f3.f0,(rd_T79 x8 t25).f3.f1,(rd_T79 x8 t25).f3.f2⟩:S37),(⟨bt27.1,bt27.2.1,bt27.2.2⟩:S37),(rd_T79 x8 t25).f5⟩:S79):List (S79))).bind fun y30=>((r10_Le.f ((rd_T79 y30 t25).f4.f0) ((rd_T79 y30 t25).f4.f1) ((rd_T79 y30 t25).f4.f2) ((rd_T79 y30 t25).f2.f0) ((rd_T79 y30 t25).f2.f1) ((rd_T79 y30 t25).f2.f2)).bind fun t33=>(if t33=true then (r10_Admit.l0 k x1 x7 y30 (wrap64 (x9+1)) x2000 x2001 x2002) else ((r10_no.f 12).bind fun bt34=>(some (bt34.1,bt34.2))))))) else (none)) else (none))) else (none)) else ((r10_Find.f k x8 x1).bind fun t18=>(if 0≤t18 then (if t18<(x8.length:Int) then ((r10_Add.f ((rd_T79 x8 t18).f3.f0) ((rd_T79 x8 t18).f3.f1) ((rd_T79 x8 t18).f3.f2) x2000 x2001 x2002).bind fun bt20=>(some ((x8.set (t18:Int).toNat (⟨(rd_T79 x8 t18).f0,(rd_T79 x8 t18).f1,(⟨(rd_T79 x8 t18).f2.f0,(rd_T79 x8 t18).f2.f1,(rd_T79 x8 t18).f2.f2⟩:S37),(⟨bt20.1,bt20.2.1,bt20.2.2⟩:S37),(⟨(rd_T79 x8 t18).f4.f0,(rd_T79 x8 t18).f4.f1,(rd_T79 x8 t18).f4.f2⟩:S37),(rd_T79 x8 t18).f5⟩:S79)),0))) else (none)) else (none)))
def r10_Admit.f (k:Nat) (l0:List (S79)) (a1:ByteArray) (a2_0:Int) (a2_1:Int) (a2_2:Int):Option ((List (S79))×Int):=(r10_Up.f k l0 a1).bind fun t3=>((r10_MayVec.f a2_0 a2_1 a2_2).bind fun t6=>(if t6=true then (if (t3.length:Int)=0 then ((r10_no.f 2).bind fun bt11=>(some (bt11.1,bt11.2))) else ((r10_copied.f l0).bind fun t15=>(r10_Admit.l0 k a1 t3 t15 0 a2_0 a2_1 a2_2))) else ((r10_no.f 1).bind fun bt7=>(some (bt7.1,bt7.2)))))
theorem r10_Admit.mono_l: ∀k,(∀y0 y1 y2 y3 y4 y5 y6,LeO (r10_Admit.l0 k y0 y1 y2 y3 y4 y5 y6) (r10_Admit.l0 (k+1) y0 y1 y2 y3 y4 y5 y6))
 |0=>fun _ _ _ _ _ _ _ r h=>by simp [r10_Admit.l0] at h
 |k+1=>by
  have ih0:=r10_Admit.mono_l k;intro y0 y1 y2 y3 y4 y5 y6;unfold r10_Admit.l0
  repeat' with_reducible first|apply ih0|apply r10_Find.mono|apply r10_Up.mono|apply LeO.refl|apply LeO.none|apply LeO.ite|refine LeO.bind ?_ fun _=> ?_
theorem r10_Admit.mono: ∀a0 a1 a2 a3 a4 k,LeO (r10_Admit.f k a0 a1 a2 a3 a4) (r10_Admit.f (k+1) a0 a1 a2 a3 a4):=by
 intro a0 a1 a2 a3 a4 k;have ih0:=r10_Admit.mono_l k;unfold r10_Admit.f
 repeat' with_reducible first|apply ih0|apply r10_Find.mono|apply r10_Up.mono|apply LeO.refl|apply LeO.none|apply LeO.ite|refine LeO.bind ?_ fun _=> ?_
def r10_Admit.T11:Bool×List (List Nat×List Nat):=(true,[([],[]),([],[]),([],[]),([],[]),([2,3],[2,3]),([4],[4]),([5],[5]),([],[]),([6,7],[6,7]),([0,1,0,1,2,3,4,5,6,7,8],[0,1]),([9,0,1,2,3,4,5,6,7,8],[9]),([10,8,8,0,1,2,3,4,5,6,7,8],[8,10])])
def r10_Admit.B11:List Nat:=[0,0,0,0,12,28,60,0,252,511,1023,2047]
theorem r10_Admit.tab11:rtab .any (opsOf Try.f84 11)=r10_Admit.T11:=by kernel_rfl
theorem r10_Admit.bits11:waitsOk r10_Admit.T11.2 r10_Admit.B11=true:=by kernel_rfl
def r10_Admit.T12:Bool×List (List Nat×List Nat):=(true,[([],[]),([],[]),([0,1],[0,1]),([2],[2]),([3],[3]),([],[]),([],[]),([5,6],[5,6]),([7],[7]),([8],[8]),([4,9],[4,9]),([10],[10])])
def r10_Admit.B12:List Nat:=[0,0,3,7,15,0,0,96,224,480,1023,2047]
theorem r10_Admit.tab12:rtab .any (opsOf Try.f84 12)=r10_Admit.T12:=by kernel_rfl
theorem r10_Admit.bits12:waitsOk r10_Admit.T12.2 r10_Admit.B12=true:=by kernel_rfl
def r10_Admit.T15:Bool×List (List Nat×List Nat):=(true,[([],[]),([],[]),([],[]),([],[]),([2,3],[2,3]),([4],[4]),([5],[5]),([],[]),([6,7],[6,7]),([0,1,0,1,2,3,4,5,6,7,8],[0,1]),([9,0,1,2,3,4,5,6,7,8],[9]),([10,8,8,0,1,2,3,4,5,6,7,8],[8,10])])
def r10_Admit.B15:List Nat:=[0,0,0,0,12,28,60,0,252,511,1023,2047]
theorem r10_Admit.tab15:rtab .any (opsOf Try.f84 15)=r10_Admit.T15:=by kernel_rfl
theorem r10_Admit.bits15:waitsOk r10_Admit.T15.2 r10_Admit.B15=true:=by kernel_rfl
set_option maxHeartbeats 8000000 in
set_option maxRecDepth 100000 in
theorem r10_Admit.calls (k:Nat) (A0:Option Addr) (c0:Nat) (l0:List (S79)) (a1:ByteArray) (a2_0:Int) (a2_1:Int) (a2_2:Int) (r1:List (S79)) (r2:Int) (w:World) (hr0:Kd.C k79 w A0 l0.length l0) (hc0:l0.length≤c0) (h:r10_Admit.f k l0 a1 a2_0 a2_1 a2_2=some (r1,r2)):
  Calls Try.prog 84 #[.slice A0 l0.length c0, .string a1, .agg #[.int .i64 a2_0, .int .i64 a2_1, .int .i64 a2_2]] w fun e w'=> ∃v0_:Value,e= .returned (.agg #[v0_, .int .i64 r2])∧Kd.R k79 79 w' w.heap.size (fun _=>True) v0_ r1∧Below w.heap.size w w':=by
 have hu37:=Try.underlying37;have hu73:=Try.underlying73;have HR0:=Aside0.mk hr0;have HC0:=Aside0.mk hc0;clear hr0 hc0;have HB:=am_ (Below.refl w.heap.size w);have H:((r10_Up.f k l0 a1).bind fun t3=>((r10_MayVec.f a2_0 a2_1 a2_2).bind fun t6=>(if t6=true then (if (t3.length:Int)=0 then ((r10_no.f 2).bind fun bt11=>(some (bt11.1,bt11.2))) else ((r10_copied.f l0).bind fun t15=>(r10_Admit.l0 k a1 t3 t15 0 a2_0 a2_1 a2_2))) else ((r10_no.f 1).bind fun bt7=>(some (bt7.1,bt7.2))))))=some (r1,r2):=h;clear h;replace H:=zbd_ H;obtain ⟨t3,A4,H⟩:=H;try dsimp only at H
 replace H:=zbd_ H;obtain ⟨t6,A5,H⟩:=H;try dsimp only at H
 by_cases c6:t6=true;rotate_left
 ·replace c6:=Bool.eq_false_iff.mpr c6;subst c6;rw [if_neg (show¬(false=true) by decide)] at H;replace H:=zbd_ H;obtain ⟨⟨t7,t10⟩,A68,H⟩:=H;try dsimp only at H
  simp only [Option.some.injEq,Prod.mk.injEq] at H;obtain ⟨rfl,rfl⟩:=H;go_enter Try.func84,Try.ntmps84
  go_wp2_with (first|((with_reducible refine gate_dst (N:=5) rfl ?_);refine bx_ (N:=5) (cs:=#[.int .i64 a2_0, .int .i64 a2_1, .int .i64 a2_2]) (t:=37) ?_;intro gb1 hg w69 hbox hb;have BK1:=am_ (hbox);have GE1:=am_ ((zg0_ HB hg:w.heap.size≤gb1));replace HB:=am_ (below_step (zl0_ HB) hb);clear hb hbox hg)|((with_reducible refine gate_dst (N:=6) rfl ?_);refine bx_ (N:=6) (cs:=#[.slice none 0 0, .int .i64 0]) (t:=73) ?_;intro gb2 hg w70 hbox hb;have BK2:=am_ (hbox);have GE2:=am_ ((zg1_ HB GE1 hg:w.heap.size≤gb2));replace HB:=am_ (below_step (zl1_ HB GE1) hb);have NB1_2:=am_ ((zn_ BK1 hg:gb1≠gb2));have NB2_1:=am_ ((zm_ BK1 hg:gb2≠gb1));replace BK1:=bb_ BK1 hb;clear hb hbox hg)|((with_reducible refine gate_callee (f:=55) rfl ?_);refine gl_ (some 14) Try.func55 #[.slice A0 l0.length c0, .string a1] ?_;(with_reducible refine (r10_Up.calls k _ _ l0 a1 t3 _ ?side1 ?side2 A4.out).mono ?_);(case side1=>exact zc_ (Kd.C_below HR0.out HB.out));(case side2=>exact HC0.out);rintro e w71 ⟨v4,rfl,ho0,hb⟩;refine ⟨_,rfl, ?_⟩;have HO5:=am_ (Kd.R_lower ho0 (below_size (zl2_ HB GE1 GE2)));replace BK1:=bb_ BK1 hb;replace BK2:=bb_ BK2 hb;replace HB:=am_ (below_step (zl2_ HB GE1 GE2) hb);(try clear hb ho0);have hnb72:=NB1_2.out;have hnc72:=NB2_1.out;obtain ⟨hcz73_0,hcz73_1,hcz73_2⟩:=x3_ BK1;have hfz73_0:=blk_frozen BK1.out 0;have hfz73_1:=blk_frozen BK1.out 1;have hfz73_2:=blk_frozen BK1.out 2)|((with_reducible refine gate_callee (f:=68) rfl ?_);refine gl_ (some 16) Try.func68 #[.agg #[.int .i64 a2_0, .int .i64 a2_1, .int .i64 a2_2]] ?_;(with_reducible refine (r10_MayVec.calls a2_0 a2_1 a2_2 false _ A5.out).mono ?_);rintro e w74 ⟨rfl,hb⟩;refine ⟨_,rfl, ?_⟩;replace HO5:=ob_ HO5 hb;replace BK1:=bb_ BK1 hb;replace BK2:=bb_ BK2 hb;replace HB:=am_ (below_step (zl2_ HB GE1 GE2) hb);(try clear hb))|((with_reducible refine gate_callee (f:=101) rfl ?_);refine gl_ (some 18) Try.func101 #[.int .i64 1] ?_;(with_reducible refine (r10_no.calls 1 t7 t10 _ A68.out).mono ?_);rintro e w75 ⟨v8,rfl,ho0,hb⟩;refine ⟨_,rfl, ?_⟩;replace HO5:=ob_ HO5 hb;have HO9:=am_ (Kd.R_lower ho0 (below_size (zl2_ HB GE1 GE2)));replace BK1:=bb_ BK1 hb;replace BK2:=bb_ BK2 hb;replace HB:=am_ (below_step (zl2_ HB GE1 GE2) hb);(try clear hb ho0);obtain ⟨Ao76,co76,eo76⟩:=Kd.R_slice HO9.out;subst eo76;obtain ⟨hcz77_0,hcz77_1⟩:=x2_ BK2;have hfz77_0:=blk_frozen BK2.out 0;have hfz77_1:=blk_frozen BK2.out 1))
  refine bodyPost_ret (results_cell_row rfl _ _ gb2 73 #[.slice Ao76 t7.length co76, .int .i64 t10] (0,0) _ rfl (zw_ BK2) Try.underlying73 rfl (by kernel_rfl)) rfl ?_;exact ⟨_,by first|rfl|(simp [errW_none,errW_some]<;>rfl)|(simp [*,errW_none,errW_some]<;>rfl),zy_ HO9 BK2,zl2_ HB GE1 GE2⟩

 subst c6;rw [if_pos rfl] at H;by_cases c7:(t3.length:Int)=0
 ·rw [if_pos c7] at H;have c7b0:=beq_iff_eq.mpr c7;have c7b1:=bne_eq_false_iff_eq.mpr c7;clear c7;replace H:=zbd_ H;obtain ⟨⟨t11,t14⟩,A8,H⟩:=H;try dsimp only at H
  simp only [Option.some.injEq,Prod.mk.injEq] at H;obtain ⟨rfl,rfl⟩:=H;go_enter Try.func84,Try.ntmps84
  go_wp2_with (first|((with_reducible refine gate_dst (N:=5) rfl ?_);refine bx_ (N:=5) (cs:=#[.int .i64 a2_0, .int .i64 a2_1, .int .i64 a2_2]) (t:=37) ?_;intro gb1 hg w9 hbox hb;have BK1:=am_ (hbox);have GE1:=am_ ((zg0_ HB hg:w.heap.size≤gb1));replace HB:=am_ (below_step (zl0_ HB) hb);clear hb hbox hg)|((with_reducible refine gate_dst (N:=6) rfl ?_);refine bx_ (N:=6) (cs:=#[.slice none 0 0, .int .i64 0]) (t:=73) ?_;intro gb2 hg w10 hbox hb;have BK2:=am_ (hbox);have GE2:=am_ ((zg1_ HB GE1 hg:w.heap.size≤gb2));replace HB:=am_ (below_step (zl1_ HB GE1) hb);have NB1_2:=am_ ((zn_ BK1 hg:gb1≠gb2));have NB2_1:=am_ ((zm_ BK1 hg:gb2≠gb1));replace BK1:=bb_ BK1 hb;clear hb hbox hg)|((with_reducible refine gate_callee (f:=55) rfl ?_);refine gl_ (some 14) Try.func55 #[.slice A0 l0.length c0, .string a1] ?_;(with_reducible refine (r10_Up.calls k _ _ l0 a1 t3 _ ?side1 ?side2 A4.out).mono ?_);(case side1=>exact zc_ (Kd.C_below HR0.out HB.out));(case side2=>exact HC0.out);rintro e w11 ⟨v4,rfl,ho0,hb⟩;refine ⟨_,rfl, ?_⟩;have HO5:=am_ (Kd.R_lower ho0 (below_size (zl2_ HB GE1 GE2)));replace BK1:=bb_ BK1 hb;replace BK2:=bb_ BK2 hb;replace HB:=am_ (below_step (zl2_ HB GE1 GE2) hb);(try clear hb ho0);have hnb12:=NB1_2.out;have hnc12:=NB2_1.out;obtain ⟨hcz13_0,hcz13_1,hcz13_2⟩:=x3_ BK1;have hfz13_0:=blk_frozen BK1.out 0;have hfz13_1:=blk_frozen BK1.out 1;have hfz13_2:=blk_frozen BK1.out 2)|((with_reducible refine gate_callee (f:=68) rfl ?_);refine gl_ (some 16) Try.func68 #[.agg #[.int .i64 a2_0, .int .i64 a2_1, .int .i64 a2_2]] ?_;(with_reducible refine (r10_MayVec.calls a2_0 a2_1 a2_2 true _ A5.out).mono ?_);rintro e w14 ⟨rfl,hb⟩;refine ⟨_,rfl, ?_⟩;replace HO5:=ob_ HO5 hb;replace BK1:=bb_ BK1 hb;replace BK2:=bb_ BK2 hb;replace HB:=am_ (below_step (zl2_ HB GE1 GE2) hb);(try clear hb);obtain ⟨Ao15,co15,eo15⟩:=Kd.R_slice HO5.out;subst eo15)|((with_reducible refine gate_callee (f:=101) rfl ?_);refine gl_ (some 22) Try.func101 #[.int .i64 2] ?_;(with_reducible refine (r10_no.calls 2 t11 t14 _ A8.out).mono ?_);rintro e w16 ⟨v12,rfl,ho0,hb⟩;refine ⟨_,rfl, ?_⟩;replace HO5:=ob_ HO5 hb;have HO13:=am_ (Kd.R_lower ho0 (below_size (zl2_ HB GE1 GE2)));replace BK1:=bb_ BK1 hb;replace BK2:=bb_ BK2 hb;replace HB:=am_ (below_step (zl2_ HB GE1 GE2) hb);(try clear hb ho0);obtain ⟨Ao17,co17,eo17⟩:=Kd.R_slice HO13.out;subst eo17;obtain ⟨hcz18_0,hcz18_1⟩:=x2_ BK2;have hfz18_0:=blk_frozen BK2.out 0;have hfz18_1:=blk_frozen BK2.out 1))
  refine bodyPost_ret (results_cell_row rfl _ _ gb2 73 #[.slice Ao17 t11.length co17, .int .i64 t14] (0,0) _ rfl (zw_ BK2) Try.underlying73 rfl (by kernel_rfl)) rfl ?_;exact ⟨_,by first|rfl|(simp [errW_none,errW_some]<;>rfl)|(simp [*,errW_none,errW_some]<;>rfl),zy_ HO13 BK2,zl2_ HB GE1 GE2⟩
 rw [if_neg c7] at H;have c7b0:=beq_eq_false_iff_ne.mpr c7;have c7b1:=bne_iff_ne.mpr c7;have c7b2: ¬(t3=[]):=fun h_=>c7 (by rw [h_];rfl)
 replace H:=zbd_ H;obtain ⟨t15,A19,H⟩:=H;try dsimp only at H
 have H':=Aside0.mk H;clear H;go_enter Try.func84,Try.ntmps84
 go_wp2_with (first|((with_reducible refine gate_dst (N:=5) rfl ?_);refine bx_ (N:=5) (cs:=#[.int .i64 a2_0, .int .i64 a2_1, .int .i64 a2_2]) (t:=37) ?_;intro gb1 hg w20 hbox hb;have BK1:=am_ (hbox);have GE1:=am_ ((zg0_ HB hg:w.heap.size≤gb1));replace HB:=am_ (below_step (zl0_ HB) hb);clear hb hbox hg)|((with_reducible refine gate_dst (N:=6) rfl ?_);refine bx_ (N:=6) (cs:=#[.slice none 0 0, .int .i64 0]) (t:=73) ?_;intro gb2 hg w21 hbox hb;have BK2:=am_ (hbox);have GE2:=am_ ((zg1_ HB GE1 hg:w.heap.size≤gb2));replace HB:=am_ (below_step (zl1_ HB GE1) hb);have NB1_2:=am_ ((zn_ BK1 hg:gb1≠gb2));have NB2_1:=am_ ((zm_ BK1 hg:gb2≠gb1));replace BK1:=bb_ BK1 hb;clear hb hbox hg)|((with_reducible refine gate_callee (f:=55) rfl ?_);refine gl_ (some 14) Try.func55 #[.slice A0 l0.length c0, .string a1] ?_;(with_reducible refine (r10_Up.calls k _ _ l0 a1 t3 _ ?side1 ?side2 A4.out).mono ?_);(case side1=>exact zc_ (Kd.C_below HR0.out HB.out));(case side2=>exact HC0.out);rintro e w22 ⟨v4,rfl,ho0,hb⟩;refine ⟨_,rfl, ?_⟩;have HO5:=am_ (Kd.R_lower ho0 (below_size (zl2_ HB GE1 GE2)));replace BK1:=bb_ BK1 hb;replace BK2:=bb_ BK2 hb;replace HB:=am_ (below_step (zl2_ HB GE1 GE2) hb);(try clear hb ho0);have hnb23:=NB1_2.out;have hnc23:=NB2_1.out;obtain ⟨hcz24_0,hcz24_1,hcz24_2⟩:=x3_ BK1;have hfz24_0:=blk_frozen BK1.out 0;have hfz24_1:=blk_frozen BK1.out 1;have hfz24_2:=blk_frozen BK1.out 2)|((with_reducible refine gate_callee (f:=68) rfl ?_);refine gl_ (some 16) Try.func68 #[.agg #[.int .i64 a2_0, .int .i64 a2_1, .int .i64 a2_2]] ?_;(with_reducible refine (r10_MayVec.calls a2_0 a2_1 a2_2 true _ A5.out).mono ?_);rintro e w25 ⟨rfl,hb⟩;refine ⟨_,rfl, ?_⟩;replace HO5:=ob_ HO5 hb;replace BK1:=bb_ BK1 hb;replace BK2:=bb_ BK2 hb;replace HB:=am_ (below_step (zl2_ HB GE1 GE2) hb);(try clear hb);obtain ⟨Ao26,co26,eo26⟩:=Kd.R_slice HO5.out;subst eo26)|((with_reducible refine gate_callee (f:=119) rfl ?_);refine gl_ (some 24) Try.func119 #[.slice A0 l0.length c0] ?_;(with_reducible refine (r10_copied.calls _ _ l0 t15 _ ?side1 ?side2 A19.out).mono ?_);(case side1=>exact zc_ (Kd.C_below HR0.out HB.out));(case side2=>exact HC0.out);rintro e w27 ⟨v16,rfl,ho0,hb⟩;refine ⟨_,rfl, ?_⟩;replace HO5:=ob_ HO5 hb;have HO17:=am_ (Kd.R_lower ho0 (below_size (zl2_ HB GE1 GE2)));replace BK1:=bb_ BK1 hb;replace BK2:=bb_ BK2 hb;replace HB:=am_ (below_step (zl2_ HB GE1 GE2) hb);(try clear hb ho0)))
 go_loopg [9] k (fun kq v9 w'=> ∃(x8_1:List (S79)) (x9_1:Int) (x3001_1:Int),v9= .int .i64 x9_1∧Aside0 (r10_Admit.l0 kq a1 t3 x8_1 x9_1 a2_0 a2_1 a2_2=some (r1,r2))∧Aside0 (kq≤k)∧Aside0 (Kd.R Kd.string 9 w' w.heap.size (fun _=>True) (.slice Ao26 t3.length co26) t3)∧Aside0 (Kd.R k79 79 w' w.heap.size (fun _=>True) v16 x8_1)∧Aside0 (w'.heap[gb1]?=some (.cells #[.int .i64 a2_0, .int .i64 a2_1, .int .i64 a2_2] 37 (0,0)))∧Aside0 (w'.heap[gb2]?=some (.cells #[(.slice none 0 0), .int .i64 x3001_1] 73 (0,0)))∧Aside0 (Below w.heap.size w w'))
 case atStart=>exact ⟨(t15),(0),(0),rf_,H',⟨Nat.le_refl _⟩,am_ (zr_ HO5),am_ (zr_ HO17),am_ (zb_ BK1),am_ (zb_ BK2),⟨zl2_ HB GE1 GE2⟩⟩
 case round=>
  clear H';obtain ⟨x8_1,x9_1,x3001_1,rfl,HA,HK1,HO_7,HO_8,BK1,BK2,HB⟩:=hrel
  cases gk with
  |zero=>exact absurd HA.out (by simp [r10_Admit.l0])
  |succ k1=>
   have H:=HA.out;clear HA;simp only [r10_Admit.l0] at H;by_cases c28:x9_1<(t3.length:Int);rotate_left
   ·rw [if_neg c28] at H;have c28b0:=decide_eq_false c28;clear c28;replace H:=zbd_ H;obtain ⟨t18,A56,H⟩:=H;try dsimp only at H
    replace H:=zif_ H;obtain ⟨c57,H⟩:=H;have c57b0:=decide_eq_true c57;clear c57;replace H:=zif_ H;obtain ⟨c58,H⟩:=H;have c58b0:=decide_eq_true c58;clear c58;replace H:=zbd_ H;obtain ⟨⟨t20,t21,t22⟩,A59,H⟩:=H;try dsimp only at H
    obtain ⟨y23,hy23⟩: ∃y_:List (S79),y_=(x8_1.set (t18:Int).toNat (⟨(rd_T79 x8_1 t18).f0,(rd_T79 x8_1 t18).f1,(⟨(rd_T79 x8_1 t18).f2.f0,(rd_T79 x8_1 t18).f2.f1,(rd_T79 x8_1 t18).f2.f2⟩:S37),(⟨t20,t21,t22⟩:S37),(⟨(rd_T79 x8_1 t18).f4.f0,(rd_T79 x8_1 t18).f4.f1,(rd_T79 x8_1 t18).f4.f2⟩:S37),(rd_T79 x8_1 t18).f5⟩:S79)):=⟨_,rfl⟩;(first|replace H:=zsb_ hy23 H|rw [←hy23] at H);have Ny23:=Aside0.mk hy23;clear hy23;simp only [Option.some.injEq,Prod.mk.injEq] at H;obtain ⟨rfl,rfl⟩:=H;obtain ⟨Ao61,co61,eo61⟩:=Kd.R_slice HO_8.out;subst eo61;try go_wp2_with (first|((with_reducible refine gate_callee (f:=52) rfl ?_);refine gl_ (some 63) Try.func52 #[.slice Ao61 x8_1.length co61, .string a1] ?_;(with_reducible refine (r10_Find.calls k1 _ _ x8_1 a1 t18 _ ?side1 ?side2 A56.out).mono ?_);(case side1=>exact zc_ (Kd.R_reads' HO_8.out).2.2);(case side2=>exact (Kd.R_reads' HO_8.out).2.1);rintro e w' ⟨rfl,⟨nd,rfl⟩⟩;refine ⟨_,rfl, ?_⟩;(try (rw [drewN_self wr];generalize hq_:World.drewN wr _=wr;replace HO_7:=am_ (Kd.R_at hq_ HO_7.out);replace HO_8:=am_ (Kd.R_at hq_ HO_8.out);replace BK1:=am_ (blk_at hq_ BK1.out);replace BK2:=am_ (blk_at hq_ BK2.out);replace HB:=am_ (below_at hq_ HB.out);clear hq_))))
    replace HO_7:=am_ (Kd.R_drew HO_7.out);replace HO_8:=am_ (Kd.R_drew HO_8.out);replace BK1:=am_ (blk_drew BK1.out);replace BK2:=am_ (blk_drew BK2.out);replace HB:=am_ (below_drew1 HB.out);obtain ⟨p19,q19,ad19,e19,hx19_0,hx19_1,hx19_2,hx19_3,hx19_4,hx19_5,hx19_6,hx19_7,hx19_8,hx19_9,hx19_10,hx19_11⟩:=zat_ (at_T79 (Kd.R_reads' HO_8.out).2.2 t18);cases e19
    refine start_ (n:=12) (S:=fun w'=>w'.cell? ⟨gb1,0,none⟩=some (.int .i64 a2_0)∧w'.cell? ⟨gb1,1,none⟩=some (.int .i64 a2_1)∧w'.cell? ⟨gb1,2,none⟩=some (.int .i64 a2_2)∧w'.cell? (ad19.add ((t18).toNat*12))=some (.string ((rd_T79 x8_1 t18).f0))∧w'.cell? ⟨(ad19.add ((t18).toNat*12)).block,(ad19.add ((t18).toNat*12)).off+1,none⟩=some (.string ((rd_T79 x8_1 t18).f1))∧w'.cell? ⟨(ad19.add ((t18).toNat*12)).block,(ad19.add ((t18).toNat*12)).off+2,none⟩=some (.int .i64 ((rd_T79 x8_1 t18).f2.f0))∧w'.cell? ⟨(ad19.add ((t18).toNat*12)).block,(ad19.add ((t18).toNat*12)).off+3,none⟩=some (.int .i64 ((rd_T79 x8_1 t18).f2.f1))∧w'.cell? ⟨(ad19.add ((t18).toNat*12)).block,(ad19.add ((t18).toNat*12)).off+4,none⟩=some (.int .i64 ((rd_T79 x8_1 t18).f2.f2))∧w'.cell? ⟨(ad19.add ((t18).toNat*12)).block,(ad19.add ((t18).toNat*12)).off+5,none⟩=some (.int .i64 ((rd_T79 x8_1 t18).f3.f0))∧w'.cell? ⟨(ad19.add ((t18).toNat*12)).block,(ad19.add ((t18).toNat*12)).off+6,none⟩=some (.int .i64 ((rd_T79 x8_1 t18).f3.f1))∧w'.cell? ⟨(ad19.add ((t18).toNat*12)).block,(ad19.add ((t18).toNat*12)).off+7,none⟩=some (.int .i64 ((rd_T79 x8_1 t18).f3.f2))∧w'.cell? ⟨(ad19.add ((t18).toNat*12)).block,(ad19.add ((t18).toNat*12)).off+8,none⟩=some (.int .i64 ((rd_T79 x8_1 t18).f4.f0))∧w'.cell? ⟨(ad19.add ((t18).toNat*12)).block,(ad19.add ((t18).toNat*12)).off+9,none⟩=some (.int .i64 ((rd_T79 x8_1 t18).f4.f1))∧w'.cell? ⟨(ad19.add ((t18).toNat*12)).block,(ad19.add ((t18).toNat*12)).off+10,none⟩=some (.int .i64 ((rd_T79 x8_1 t18).f4.f2))∧w'.cell? ⟨(ad19.add ((t18).toNat*12)).block,(ad19.add ((t18).toNat*12)).off+11,none⟩=some (.int .i64 ((rd_T79 x8_1 t18).f5))) (ds:=[11]) (bs_ 12 0) (by kernel_rfl) rfl rfl ⟨(blk_cell BK1.out 0).trans rfl,(blk_cell BK1.out 1).trans rfl,(blk_cell BK1.out 2).trans rfl,hx19_0,hx19_1,hx19_2,hx19_3,hx19_4,hx19_5,hx19_6,hx19_7,hx19_8,hx19_9,hx19_10,hx19_11⟩ (fun hHeld=> ?_);refine with_tabW r10_Admit.tab15 r10_Admit.bits15 (fun HT_ HW_=> ?_)
    generalize wr.drew=w62 at HO_7 HO_8 BK1 BK2 HB hx19_0 hx19_1 hx19_10 hx19_11 hx19_2 hx19_3 hx19_4 hx19_5 hx19_6 hx19_7 hx19_8 hx19_9 hHeld ⊢;(iterate 6 refine qu_ HT_ ?_);(iterate 2 refine qk_ HT_ HW_ hHeld ?_);refine on_ (i:=8) (N:=some 72) (bs_ 12 9) HT_ (fun K hK=> ?_);refine gs_ Try.func70 #[.agg #[.int .i64 ((rd_T79 x8_1 t18).f3.f0), .int .i64 ((rd_T79 x8_1 t18).f3.f1), .int .i64 ((rd_T79 x8_1 t18).f3.f2)], .agg #[.int .i64 a2_0, .int .i64 a2_1, .int .i64 a2_2]] ?_
    with_reducible refine (r10_Add.calls ((rd_T79 x8_1 t18).f3.f0) ((rd_T79 x8_1 t18).f3.f1) ((rd_T79 x8_1 t18).f3.f2) a2_0 a2_1 a2_2 t20 t21 t22 _ A59.out).mono ?_
    rintro e w63 ⟨rfl,hb⟩;have HS3_:=zh_ hb (hHeld.2.2.2.1);have HS4_:=zh_ hb (hHeld.2.2.2.2.1);have HS5_:=zh_ hb (hHeld.2.2.2.2.2.1);have HS6_:=zh_ hb (hHeld.2.2.2.2.2.2.1);have HS7_:=zh_ hb (hHeld.2.2.2.2.2.2.2.1);have HS8_:=zh_ hb (hHeld.2.2.2.2.2.2.2.2.1);have HS9_:=zh_ hb (hHeld.2.2.2.2.2.2.2.2.2.1);have HS10_:=zh_ hb (hHeld.2.2.2.2.2.2.2.2.2.2.1);have HS11_:=zh_ hb (hHeld.2.2.2.2.2.2.2.2.2.2.2.1);have HS12_:=zh_ hb (hHeld.2.2.2.2.2.2.2.2.2.2.2.2.1);have HS13_:=zh_ hb (hHeld.2.2.2.2.2.2.2.2.2.2.2.2.2.1);have HS14_:=zh_ hb (hHeld.2.2.2.2.2.2.2.2.2.2.2.2.2.2);refine ⟨_,rfl, ?_⟩;replace HO_7:=ob_ HO_7 hb;replace HO_8:=ob_ HO_8 hb;replace BK1:=bb_ BK1 hb;replace BK2:=bb_ BK2 hb;replace HB:=am_ (below_step (zl2_ HB GE1 GE2) hb);(try clear hb);have p60:0≤(t18:Int):=of_decide_eq_true zq_;have q60:(t18:Int)<((x8_1.length:Int):Int):=of_decide_eq_true zq_;obtain ⟨go60,co60,eo60,gb60,gl60,cl60,HG60⟩:=Kd.R_form HO_8.out (by omega);(first|cases eo60|(injection eo60 with ea_ en_ ec_;(first|subst ea_|(injection ea_ with ea_;subst ea_));subst ec_;clear en_));have GB60:=Aside0.mk gb60;have GG60:=Aside0.mk HG60;clear gb60 gl60 HG60;replace hx19_0:=zv_ hx19_0;replace hx19_1:=zv_ hx19_1;replace hx19_2:=zv_ hx19_2;replace hx19_3:=zv_ hx19_3;replace hx19_4:=zv_ hx19_4;replace hx19_5:=zv_ hx19_5;replace hx19_6:=zv_ hx19_6;replace hx19_7:=zv_ hx19_7;replace hx19_8:=zv_ hx19_8;replace hx19_9:=zv_ hx19_9;replace hx19_10:=zv_ hx19_10;replace hx19_11:=zv_ hx19_11
    obtain ⟨ce60,hcl60,hM60,hcc60,hfr60⟩:=Kd.R_elem HO_8.out z79 (t18:Int) p60 q60;obtain rfl:=k79_openM hM60;obtain ⟨hx60_0,hx60_1,hx60_2,hx60_3,hx60_4,hx60_5,hx60_6,hx60_7,hx60_8,hx60_9,hx60_10,hx60_11⟩:=rc12_ (m:=(t18:Int).toNat*12) hcc60;obtain ⟨hf60_0,hf60_1,hf60_2,hf60_3,hf60_4,hf60_5,hf60_6,hf60_7,hf60_8,hf60_9,hf60_10,hf60_11⟩:=rg12_ (m:=(t18:Int).toNat*12) hfr60;clear hcl60 hcc60 hfr60 hM60;replace p60:=eq_true p60;replace q60:=eq_true q60;obtain ⟨ce64,hcl64,hM64,hcc64,hfr64⟩:=Kd.R_elem HO_8.out z79 (t18:Int) (of_decide_eq_true zq_) (by have h_:(t18:Int)<((x8_1.length:Int):Int):=of_decide_eq_true zq_;first|exact h_|(have e_:=(Kd.R_reads' HO_8.out).1;omega)|simpa using h_);obtain rfl:=k79_openM hM64
    have HP64:=(Kd.R_seg HO_8.out (t18:Int) (of_decide_eq_true zq_) (by have h_:(t18:Int)<((x8_1.length:Int):Int):=of_decide_eq_true zq_;first|exact h_|(have e_:=(Kd.R_reads' HO_8.out).1;omega)|simpa using h_) (seg:=[.int .i64 t20, .int .i64 t21, .int .i64 t22]) (j:=5) hcl64 hcc64 (show 8≤12 from by decide) (x':=(⟨(rd_T79 x8_1 t18).f0,(rd_T79 x8_1 t18).f1,(⟨(rd_T79 x8_1 t18).f2.f0,(rd_T79 x8_1 t18).f2.f1,(rd_T79 x8_1 t18).f2.f2⟩:S37),(⟨t20,t21,t22⟩:S37),(⟨(rd_T79 x8_1 t18).f4.f0,(rd_T79 x8_1 t18).f4.f1,(rd_T79 x8_1 t18).f4.f2⟩:S37),(rd_T79 x8_1 t18).f5⟩:S79)) (k79_mkM _ _ _ (⟨(rd_T79 x8_1 t18).f0,(rd_T79 x8_1 t18).f1,(⟨(rd_T79 x8_1 t18).f2.f0,(rd_T79 x8_1 t18).f2.f1,(rd_T79 x8_1 t18).f2.f2⟩:S37),(⟨t20,t21,t22⟩:S37),(⟨(rd_T79 x8_1 t18).f4.f0,(rd_T79 x8_1 t18).f4.f1,(rd_T79 x8_1 t18).f4.f2⟩:S37),(rd_T79 x8_1 t18).f5⟩:S79)) (fun _ hk=>hk)).1;rw [←Ny23.out] at HP64;have HQ64:=Aside0.mk HP64;clear hcl64 hcc64 hfr64 hM64 HP64;refine hK.out _ _ ⟨(blk_cell BK1.out 0).trans rfl,(blk_cell BK1.out 1).trans rfl,(blk_cell BK1.out 2).trans rfl,HS3_,HS4_,HS5_,HS6_,HS7_,HS8_,HS9_,HS10_,HS11_,HS12_,HS13_,HS14_⟩ (fun hHeld=> ?_);clear hK K;refine no_ (N:=some 72) ?_;(iterate 2 refine qu_ HT_ ?_);refine last_ (i:=11) (N:=none) (bs_ 12 12) rfl rfl (one_of HT_.out (by kernel_rfl)) (by decide) (fun K hK=> ?_);refine skip_ (w1:= ?_) (by rfl) rfl ?_ ?_;rotate_left
    ·go_simp
     rfl
    refine hK.out _ _ ?_;clear hK K;refine done_ (done_of HT_.out (by kernel_rfl)) ?_;have n0_:Aside0 (Kd.R Kd.string 9 (((w63.setCell ⟨go60,(t18:Int).toNat*12+5,none⟩ (.int .i64 t20)).setCell ⟨go60,(t18:Int).toNat*12+6,none⟩ (.int .i64 t21)).setCell ⟨go60,(t18:Int).toNat*12+7,none⟩ (.int .i64 t22)) w.heap.size (fun _=>True) (.slice Ao26 t3.length co26) t3):=⟨by (with_reducible repeat (first|apply Kd.R_alloc|apply Kd.R_drewN|apply Kd.R_drew));exact Kd.R_mono (Kd.R_far (p:=⟨go60,(t18:Int).toNat*12+7,none⟩) (Kd.R_far (p:=⟨go60,(t18:Int).toNat*12+6,none⟩) (Kd.R_far (p:=⟨go60,(t18:Int).toNat*12+5,none⟩) (Kd.R_types HO_7.out GG60.out (by decide)) (fun _ hk=>hk.2) (.int .i64 t20)) (fun _ hk=>hk.2) (.int .i64 t21)) (fun _ hk=>hk.2) (.int .i64 t22)) (fun _ hk=>trivial)⟩;have n1_:Aside0 (Kd.R k79 79 (((w63.setCell ⟨go60,(t18:Int).toNat*12+5,none⟩ (.int .i64 t20)).setCell ⟨go60,(t18:Int).toNat*12+6,none⟩ (.int .i64 t21)).setCell ⟨go60,(t18:Int).toNat*12+7,none⟩ (.int .i64 t22)) w.heap.size (fun _=>True) (.slice (some ⟨go60,0,none⟩) x8_1.length co61) y23):=am_ (zr_ HQ64)
    have n2_:Aside0 ((((w63.setCell ⟨go60,(t18:Int).toNat*12+5,none⟩ (.int .i64 t20)).setCell ⟨go60,(t18:Int).toNat*12+6,none⟩ (.int .i64 t21)).setCell ⟨go60,(t18:Int).toNat*12+7,none⟩ (.int .i64 t22)).heap[gb1]?=some (.cells #[.int .i64 a2_0, .int .i64 a2_1, .int .i64 a2_2] 37 (0,0))):=⟨by refine zk_ ?_;refine blk_far ?_ (by have h_:=Kd.R_ne HO_8.out BK1.out (by decide);intro e_;exact h_ (by rw [e_];rfl)) _;refine zk_ ?_;refine blk_far ?_ (by have h_:=Kd.R_ne HO_8.out BK1.out (by decide);intro e_;exact h_ (by rw [e_];rfl)) _;refine zk_ ?_;refine blk_far ?_ (by have h_:=Kd.R_ne HO_8.out BK1.out (by decide);intro e_;exact h_ (by rw [e_];rfl)) _;refine zk_ ?_;exact BK1.out⟩;have n3_:Aside0 ((((w63.setCell ⟨go60,(t18:Int).toNat*12+5,none⟩ (.int .i64 t20)).setCell ⟨go60,(t18:Int).toNat*12+6,none⟩ (.int .i64 t21)).setCell ⟨go60,(t18:Int).toNat*12+7,none⟩ (.int .i64 t22)).heap[gb2]?=some (.cells #[.slice none 0 0, .int .i64 x3001_1] 73 (0,0))):=⟨by refine zk_ ?_;refine blk_far ?_ (by have h_:=Kd.R_ne HO_8.out BK2.out (by decide);intro e_;exact h_ (by rw [e_];rfl)) _;refine zk_ ?_;refine blk_far ?_ (by have h_:=Kd.R_ne HO_8.out BK2.out (by decide);intro e_;exact h_ (by rw [e_];rfl)) _;refine zk_ ?_;refine blk_far ?_ (by have h_:=Kd.R_ne HO_8.out BK2.out (by decide);intro e_;exact h_ (by rw [e_];rfl)) _;refine zk_ ?_;exact BK2.out⟩
    have n4_:Aside0 (Below w.heap.size w (((w63.setCell ⟨go60,(t18:Int).toNat*12+5,none⟩ (.int .i64 t20)).setCell ⟨go60,(t18:Int).toNat*12+6,none⟩ (.int .i64 t21)).setCell ⟨go60,(t18:Int).toNat*12+7,none⟩ (.int .i64 t22))):=⟨by repeat (first|(with_reducible first|exact HB.out|apply below_alloc|apply pw_below_drewN|apply below_drew1|refine below_set ?_ GB60.out|refine below_set ?_ GB60.out|refine below_set ?_ GB60.out|refine below_set ?_ GE1.out|refine below_set ?_ GE2.out)|exact HB.out)⟩;generalize (((w63.setCell ⟨go60,(t18:Int).toNat*12+5,none⟩ (.int .i64 t20)).setCell ⟨go60,(t18:Int).toNat*12+6,none⟩ (.int .i64 t21)).setCell ⟨go60,(t18:Int).toNat*12+7,none⟩ (.int .i64 t22))=w65 at n0_ n1_ n2_ n3_ n4_ ⊢;have HO_7:=n0_;have HO_8:=n1_;have BK1:=n2_;have BK2:=n3_;have HB:=n4_;clear n0_ n1_ n2_ n3_ n4_;have hnb66:=NB2_1.out;have hnc66:=NB1_2.out;obtain ⟨hcz67_0,hcz67_1,hfz67_0,hfz67_1⟩:=y2_ BK2;try go_wp2
    refine bodyPost_ret (results_cell_row rfl _ _ gb2 73 #[.slice (some ⟨go60,0,none⟩) x8_1.length co61, .int .i64 0] (0,0) _ rfl (zw_ BK2) Try.underlying73 rfl (by kernel_rfl)) rfl ?_;exact ⟨_,by first|rfl|(simp [errW_none,errW_some]<;>rfl)|(simp [*,errW_none,errW_some]<;>rfl),zy_ HO_8 BK2,zl2_ HB GE1 GE2⟩
   rw [if_pos c28] at H;have c28b0:=decide_eq_true c28;clear c28;replace H:=zif_ H;obtain ⟨c29,H⟩:=H;have c29b0:=decide_eq_true c29;clear c29;replace H:=zbd_ H;obtain ⟨t25,A30,H⟩:=H;try dsimp only at H
   replace H:=zif_ H;obtain ⟨c31,H⟩:=H;have c31b0:=decide_eq_true c31;clear c31;replace H:=zif_ H;obtain ⟨c32,H⟩:=H;have c32b0:=decide_eq_true c32;clear c32;replace H:=zbd_ H;obtain ⟨⟨t27,t28,t29⟩,A33,H⟩:=H;try dsimp only at H
   obtain ⟨y30,hy30⟩: ∃y_:List (S79),y_=(x8_1.set (t25:Int).toNat (⟨(rd_T79 x8_1 t25).f0,(rd_T79 x8_1 t25).f1,(⟨(rd_T79 x8_1 t25).f2.f0,(rd_T79 x8_1 t25).f2.f1,(rd_T79 x8_1 t25).f2.f2⟩:S37),(⟨(rd_T79 x8_1 t25).f3.f0,(rd_T79 x8_1 t25).f3.f1,(rd_T79 x8_1 t25).f3.f2⟩:S37),(⟨t27,t28,t29⟩:S37),(rd_T79 x8_1 t25).f5⟩:S79)):=⟨_,rfl⟩;(first|replace H:=zsb_ hy30 H|rw [←hy30] at H);have Ny30:=Aside0.mk hy30;clear hy30;replace H:=zbd_ H;obtain ⟨t33,A35,H⟩:=H;try dsimp only at H
   by_cases c36:t33=true
   ·subst c36;rw [if_pos rfl] at H;have H':=Aside0.mk H;clear H;obtain ⟨p24,q24,ad24,e24,hx24_0⟩:=zat_ (Kd.at_string (Kd.R_reads' HO_7.out).2.2 x9_1);cases e24;obtain ⟨Ao37,co37,eo37⟩:=Kd.R_slice HO_8.out;subst eo37;try go_wp2_with (first|((with_reducible refine gate_callee (f:=52) rfl ?_);refine gl_ (some 36) Try.func52 #[.slice Ao37 x8_1.length co37, .string (rdOf ByteArray.empty t3 x9_1)] ?_;(with_reducible refine (r10_Find.calls k1 _ _ x8_1 (rdOf ByteArray.empty t3 x9_1) t25 _ ?side1 ?side2 A30.out).mono ?_);(case side1=>exact zc_ (Kd.R_reads' HO_8.out).2.2);(case side2=>exact (Kd.R_reads' HO_8.out).2.1);rintro e w' ⟨rfl,⟨nd,rfl⟩⟩;refine ⟨_,rfl, ?_⟩;(try (rw [drewN_self wr];generalize hq_:World.drewN wr _=wr;replace HO_7:=am_ (Kd.R_at hq_ HO_7.out);replace HO_8:=am_ (Kd.R_at hq_ HO_8.out);replace BK1:=am_ (blk_at hq_ BK1.out);replace BK2:=am_ (blk_at hq_ BK2.out);replace HB:=am_ (below_at hq_ HB.out);clear hq_))))
    replace HO_7:=am_ (Kd.R_drew HO_7.out);replace HO_8:=am_ (Kd.R_drew HO_8.out);replace BK1:=am_ (blk_drew BK1.out);replace BK2:=am_ (blk_drew BK2.out);replace HB:=am_ (below_drew1 HB.out);obtain ⟨p26,q26,ad26,e26,hx26_0,hx26_1,hx26_2,hx26_3,hx26_4,hx26_5,hx26_6,hx26_7,hx26_8,hx26_9,hx26_10,hx26_11⟩:=zat_ (at_T79 (Kd.R_reads' HO_8.out).2.2 t25);cases e26
    refine start_ (n:=12) (S:=fun w'=>w'.cell? ⟨gb1,0,none⟩=some (.int .i64 a2_0)∧w'.cell? ⟨gb1,1,none⟩=some (.int .i64 a2_1)∧w'.cell? ⟨gb1,2,none⟩=some (.int .i64 a2_2)∧w'.cell? (ad26.add ((t25).toNat*12))=some (.string ((rd_T79 x8_1 t25).f0))∧w'.cell? ⟨(ad26.add ((t25).toNat*12)).block,(ad26.add ((t25).toNat*12)).off+1,none⟩=some (.string ((rd_T79 x8_1 t25).f1))∧w'.cell? ⟨(ad26.add ((t25).toNat*12)).block,(ad26.add ((t25).toNat*12)).off+2,none⟩=some (.int .i64 ((rd_T79 x8_1 t25).f2.f0))∧w'.cell? ⟨(ad26.add ((t25).toNat*12)).block,(ad26.add ((t25).toNat*12)).off+3,none⟩=some (.int .i64 ((rd_T79 x8_1 t25).f2.f1))∧w'.cell? ⟨(ad26.add ((t25).toNat*12)).block,(ad26.add ((t25).toNat*12)).off+4,none⟩=some (.int .i64 ((rd_T79 x8_1 t25).f2.f2))∧w'.cell? ⟨(ad26.add ((t25).toNat*12)).block,(ad26.add ((t25).toNat*12)).off+5,none⟩=some (.int .i64 ((rd_T79 x8_1 t25).f3.f0))∧w'.cell? ⟨(ad26.add ((t25).toNat*12)).block,(ad26.add ((t25).toNat*12)).off+6,none⟩=some (.int .i64 ((rd_T79 x8_1 t25).f3.f1))∧w'.cell? ⟨(ad26.add ((t25).toNat*12)).block,(ad26.add ((t25).toNat*12)).off+7,none⟩=some (.int .i64 ((rd_T79 x8_1 t25).f3.f2))∧w'.cell? ⟨(ad26.add ((t25).toNat*12)).block,(ad26.add ((t25).toNat*12)).off+8,none⟩=some (.int .i64 ((rd_T79 x8_1 t25).f4.f0))∧w'.cell? ⟨(ad26.add ((t25).toNat*12)).block,(ad26.add ((t25).toNat*12)).off+9,none⟩=some (.int .i64 ((rd_T79 x8_1 t25).f4.f1))∧w'.cell? ⟨(ad26.add ((t25).toNat*12)).block,(ad26.add ((t25).toNat*12)).off+10,none⟩=some (.int .i64 ((rd_T79 x8_1 t25).f4.f2))∧w'.cell? ⟨(ad26.add ((t25).toNat*12)).block,(ad26.add ((t25).toNat*12)).off+11,none⟩=some (.int .i64 ((rd_T79 x8_1 t25).f5))) (ds:=[11]) (bs_ 12 0) (by kernel_rfl) rfl rfl ⟨(blk_cell BK1.out 0).trans rfl,(blk_cell BK1.out 1).trans rfl,(blk_cell BK1.out 2).trans rfl,hx26_0,hx26_1,hx26_2,hx26_3,hx26_4,hx26_5,hx26_6,hx26_7,hx26_8,hx26_9,hx26_10,hx26_11⟩ (fun hHeld=> ?_);refine with_tabW r10_Admit.tab11 r10_Admit.bits11 (fun HT_ HW_=> ?_)
    generalize wr.drew=w38 at HO_7 HO_8 BK1 BK2 HB hx26_0 hx26_1 hx26_10 hx26_11 hx26_2 hx26_3 hx26_4 hx26_5 hx26_6 hx26_7 hx26_8 hx26_9 hHeld ⊢;(iterate 6 refine qu_ HT_ ?_);(iterate 2 refine qk_ HT_ HW_ hHeld ?_);refine on_ (i:=8) (N:=some 45) (bs_ 12 9) HT_ (fun K hK=> ?_);refine gs_ Try.func70 #[.agg #[.int .i64 ((rd_T79 x8_1 t25).f4.f0), .int .i64 ((rd_T79 x8_1 t25).f4.f1), .int .i64 ((rd_T79 x8_1 t25).f4.f2)], .agg #[.int .i64 a2_0, .int .i64 a2_1, .int .i64 a2_2]] ?_
    with_reducible refine (r10_Add.calls ((rd_T79 x8_1 t25).f4.f0) ((rd_T79 x8_1 t25).f4.f1) ((rd_T79 x8_1 t25).f4.f2) a2_0 a2_1 a2_2 t27 t28 t29 _ A33.out).mono ?_
    rintro e w39 ⟨rfl,hb⟩;have HS3_:=zh_ hb (hHeld.2.2.2.1);have HS4_:=zh_ hb (hHeld.2.2.2.2.1);have HS5_:=zh_ hb (hHeld.2.2.2.2.2.1);have HS6_:=zh_ hb (hHeld.2.2.2.2.2.2.1);have HS7_:=zh_ hb (hHeld.2.2.2.2.2.2.2.1);have HS8_:=zh_ hb (hHeld.2.2.2.2.2.2.2.2.1);have HS9_:=zh_ hb (hHeld.2.2.2.2.2.2.2.2.2.1);have HS10_:=zh_ hb (hHeld.2.2.2.2.2.2.2.2.2.2.1);have HS11_:=zh_ hb (hHeld.2.2.2.2.2.2.2.2.2.2.2.1);have HS12_:=zh_ hb (hHeld.2.2.2.2.2.2.2.2.2.2.2.2.1);have HS13_:=zh_ hb (hHeld.2.2.2.2.2.2.2.2.2.2.2.2.2.1);have HS14_:=zh_ hb (hHeld.2.2.2.2.2.2.2.2.2.2.2.2.2.2);refine ⟨_,rfl, ?_⟩;replace HO_7:=ob_ HO_7 hb;replace HO_8:=ob_ HO_8 hb;replace BK1:=bb_ BK1 hb;replace BK2:=bb_ BK2 hb;replace HB:=am_ (below_step (zl2_ HB GE1 GE2) hb);(try clear hb);have p34:0≤(t25:Int):=of_decide_eq_true zq_;have q34:(t25:Int)<((x8_1.length:Int):Int):=of_decide_eq_true zq_;obtain ⟨go34,co34,eo34,gb34,gl34,cl34,HG34⟩:=Kd.R_form HO_8.out (by omega);(first|cases eo34|(injection eo34 with ea_ en_ ec_;(first|subst ea_|(injection ea_ with ea_;subst ea_));subst ec_;clear en_));have GB34:=Aside0.mk gb34;have GG34:=Aside0.mk HG34;clear gb34 gl34 HG34;replace hx26_0:=zv_ hx26_0;replace hx26_1:=zv_ hx26_1;replace hx26_2:=zv_ hx26_2;replace hx26_3:=zv_ hx26_3;replace hx26_4:=zv_ hx26_4;replace hx26_5:=zv_ hx26_5;replace hx26_6:=zv_ hx26_6;replace hx26_7:=zv_ hx26_7;replace hx26_8:=zv_ hx26_8;replace hx26_9:=zv_ hx26_9;replace hx26_10:=zv_ hx26_10;replace hx26_11:=zv_ hx26_11
    obtain ⟨ce34,hcl34,hM34,hcc34,hfr34⟩:=Kd.R_elem HO_8.out z79 (t25:Int) p34 q34;obtain rfl:=k79_openM hM34;obtain ⟨hx34_0,hx34_1,hx34_2,hx34_3,hx34_4,hx34_5,hx34_6,hx34_7,hx34_8,hx34_9,hx34_10,hx34_11⟩:=rc12_ (m:=(t25:Int).toNat*12) hcc34;obtain ⟨hf34_0,hf34_1,hf34_2,hf34_3,hf34_4,hf34_5,hf34_6,hf34_7,hf34_8,hf34_9,hf34_10,hf34_11⟩:=rg12_ (m:=(t25:Int).toNat*12) hfr34;clear hcl34 hcc34 hfr34 hM34;replace p34:=eq_true p34;replace q34:=eq_true q34;obtain ⟨ce40,hcl40,hM40,hcc40,hfr40⟩:=Kd.R_elem HO_8.out z79 (t25:Int) (of_decide_eq_true zq_) (by have h_:(t25:Int)<((x8_1.length:Int):Int):=of_decide_eq_true zq_;first|exact h_|(have e_:=(Kd.R_reads' HO_8.out).1;omega)|simpa using h_);obtain rfl:=k79_openM hM40
    have HP40:=(Kd.R_seg HO_8.out (t25:Int) (of_decide_eq_true zq_) (by have h_:(t25:Int)<((x8_1.length:Int):Int):=of_decide_eq_true zq_;first|exact h_|(have e_:=(Kd.R_reads' HO_8.out).1;omega)|simpa using h_) (seg:=[.int .i64 t27, .int .i64 t28, .int .i64 t29]) (j:=8) hcl40 hcc40 (show 11≤12 from by decide) (x':=(⟨(rd_T79 x8_1 t25).f0,(rd_T79 x8_1 t25).f1,(⟨(rd_T79 x8_1 t25).f2.f0,(rd_T79 x8_1 t25).f2.f1,(rd_T79 x8_1 t25).f2.f2⟩:S37),(⟨(rd_T79 x8_1 t25).f3.f0,(rd_T79 x8_1 t25).f3.f1,(rd_T79 x8_1 t25).f3.f2⟩:S37),(⟨t27,t28,t29⟩:S37),(rd_T79 x8_1 t25).f5⟩:S79)) (k79_mkM _ _ _ (⟨(rd_T79 x8_1 t25).f0,(rd_T79 x8_1 t25).f1,(⟨(rd_T79 x8_1 t25).f2.f0,(rd_T79 x8_1 t25).f2.f1,(rd_T79 x8_1 t25).f2.f2⟩:S37),(⟨(rd_T79 x8_1 t25).f3.f0,(rd_T79 x8_1 t25).f3.f1,(rd_T79 x8_1 t25).f3.f2⟩:S37),(⟨t27,t28,t29⟩:S37),(rd_T79 x8_1 t25).f5⟩:S79)) (fun _ hk=>hk)).1;rw [←Ny30.out] at HP40;have HQ40:=Aside0.mk HP40;clear hcl40 hcc40 hfr40 hM40 HP40;refine hK.out _ _ ⟨(blk_cell BK1.out 0).trans rfl,(blk_cell BK1.out 1).trans rfl,(blk_cell BK1.out 2).trans rfl,HS3_,HS4_,HS5_,HS6_,HS7_,HS8_,HS9_,HS10_,HS11_,HS12_,HS13_,HS14_⟩ (fun hHeld=> ?_);clear hK K;refine no_ (N:=some 45) ?_;(iterate 2 refine qu_ HT_ ?_);refine last_ (i:=11) (N:=none) (bs_ 12 12) rfl rfl (one_of HT_.out (by kernel_rfl)) (by decide) (fun K hK=> ?_);refine skip_ (w1:= ?_) (by rfl) rfl ?_ ?_;rotate_left
    ·go_simp
     rfl
    refine hK.out _ _ ?_;clear hK K;refine done_ (done_of HT_.out (by kernel_rfl)) ?_;try go_wp2
    have n0_:Aside0 (Kd.R Kd.string 9 (((w39.setCell ⟨go34,(t25:Int).toNat*12+8,none⟩ (.int .i64 t27)).setCell ⟨go34,(t25:Int).toNat*12+9,none⟩ (.int .i64 t28)).setCell ⟨go34,(t25:Int).toNat*12+10,none⟩ (.int .i64 t29)) w.heap.size (fun _=>True) (.slice (some ad24) t3.length co26) t3):=⟨by (with_reducible repeat (first|apply Kd.R_alloc|apply Kd.R_drewN|apply Kd.R_drew));exact Kd.R_mono (Kd.R_far (p:=⟨go34,(t25:Int).toNat*12+10,none⟩) (Kd.R_far (p:=⟨go34,(t25:Int).toNat*12+9,none⟩) (Kd.R_far (p:=⟨go34,(t25:Int).toNat*12+8,none⟩) (Kd.R_types HO_7.out GG34.out (by decide)) (fun _ hk=>hk.2) (.int .i64 t27)) (fun _ hk=>hk.2) (.int .i64 t28)) (fun _ hk=>hk.2) (.int .i64 t29)) (fun _ hk=>trivial)⟩;have n1_:Aside0 (Kd.R k79 79 (((w39.setCell ⟨go34,(t25:Int).toNat*12+8,none⟩ (.int .i64 t27)).setCell ⟨go34,(t25:Int).toNat*12+9,none⟩ (.int .i64 t28)).setCell ⟨go34,(t25:Int).toNat*12+10,none⟩ (.int .i64 t29)) w.heap.size (fun _=>True) (.slice (some ⟨go34,0,none⟩) x8_1.length co37) y30):=am_ (zr_ HQ40)
    have n2_:Aside0 ((((w39.setCell ⟨go34,(t25:Int).toNat*12+8,none⟩ (.int .i64 t27)).setCell ⟨go34,(t25:Int).toNat*12+9,none⟩ (.int .i64 t28)).setCell ⟨go34,(t25:Int).toNat*12+10,none⟩ (.int .i64 t29)).heap[gb1]?=some (.cells #[.int .i64 a2_0, .int .i64 a2_1, .int .i64 a2_2] 37 (0,0))):=⟨by refine zk_ ?_;refine blk_far ?_ (by have h_:=Kd.R_ne HO_8.out BK1.out (by decide);intro e_;exact h_ (by rw [e_];rfl)) _;refine zk_ ?_;refine blk_far ?_ (by have h_:=Kd.R_ne HO_8.out BK1.out (by decide);intro e_;exact h_ (by rw [e_];rfl)) _;refine zk_ ?_;refine blk_far ?_ (by have h_:=Kd.R_ne HO_8.out BK1.out (by decide);intro e_;exact h_ (by rw [e_];rfl)) _;refine zk_ ?_;exact BK1.out⟩;have n3_:Aside0 ((((w39.setCell ⟨go34,(t25:Int).toNat*12+8,none⟩ (.int .i64 t27)).setCell ⟨go34,(t25:Int).toNat*12+9,none⟩ (.int .i64 t28)).setCell ⟨go34,(t25:Int).toNat*12+10,none⟩ (.int .i64 t29)).heap[gb2]?=some (.cells #[.slice none 0 0, .int .i64 x3001_1] 73 (0,0))):=⟨by refine zk_ ?_;refine blk_far ?_ (by have h_:=Kd.R_ne HO_8.out BK2.out (by decide);intro e_;exact h_ (by rw [e_];rfl)) _;refine zk_ ?_;refine blk_far ?_ (by have h_:=Kd.R_ne HO_8.out BK2.out (by decide);intro e_;exact h_ (by rw [e_];rfl)) _;refine zk_ ?_;refine blk_far ?_ (by have h_:=Kd.R_ne HO_8.out BK2.out (by decide);intro e_;exact h_ (by rw [e_];rfl)) _;refine zk_ ?_;exact BK2.out⟩
    have n4_:Aside0 (Below w.heap.size w (((w39.setCell ⟨go34,(t25:Int).toNat*12+8,none⟩ (.int .i64 t27)).setCell ⟨go34,(t25:Int).toNat*12+9,none⟩ (.int .i64 t28)).setCell ⟨go34,(t25:Int).toNat*12+10,none⟩ (.int .i64 t29))):=⟨by repeat (first|(with_reducible first|exact HB.out|apply below_alloc|apply pw_below_drewN|apply below_drew1|refine below_set ?_ GB34.out|refine below_set ?_ GB34.out|refine below_set ?_ GB34.out|refine below_set ?_ GE1.out|refine below_set ?_ GE2.out)|exact HB.out)⟩;generalize (((w39.setCell ⟨go34,(t25:Int).toNat*12+8,none⟩ (.int .i64 t27)).setCell ⟨go34,(t25:Int).toNat*12+9,none⟩ (.int .i64 t28)).setCell ⟨go34,(t25:Int).toNat*12+10,none⟩ (.int .i64 t29))=w41 at n0_ n1_ n2_ n3_ n4_ ⊢;have HO_7:=n0_;have HO_8:=n1_;have BK1:=n2_;have BK2:=n3_;have HB:=n4_;clear n0_ n1_ n2_ n3_ n4_;replace HO_7:=am_ (Kd.R_drew HO_7.out);replace HO_8:=am_ (Kd.R_drew HO_8.out);replace BK1:=am_ (blk_drew BK1.out);replace BK2:=am_ (blk_drew BK2.out);replace HB:=am_ (below_drew1 HB.out);have p31:0≤(t25:Int):=of_decide_eq_true zq_;have q31:t25<(y30.length:Int):=(by have h_:(t25:Int)<((x8_1.length:Int):Int):=of_decide_eq_true zq_;first|(have e_:=(Kd.R_reads' HO_8.out).1;omega)|simpa only [Ny30.out,List.length_set] using h_);have ql31:((t25:Int)<((x8_1.length:Int):Int))=True:=eq_true (of_decide_eq_true zq_);obtain ⟨ad31,e31,hx31_0,hx31_1,hx31_2,hx31_3,hx31_4,hx31_5,hx31_6,hx31_7,hx31_8,hx31_9,hx31_10,hx31_11⟩:=at_T79 (Kd.R_reads' HO_8.out).2.2 t25 p31 q31
    obtain rfl:(⟨go34,0,none⟩:Addr)=ad31:=(by injection e31);replace hx31_0:=za_ hx31_0;replace hx31_1:=za_ hx31_1;replace hx31_2:=za_ hx31_2;replace hx31_3:=za_ hx31_3;replace hx31_4:=za_ hx31_4;replace hx31_5:=za_ hx31_5;replace hx31_6:=za_ hx31_6;replace hx31_7:=za_ hx31_7;replace hx31_8:=za_ hx31_8;replace hx31_9:=za_ hx31_9;replace hx31_10:=za_ hx31_10;replace hx31_11:=za_ hx31_11;replace p31:=eq_true p31;replace q31:=eq_true q31;have p32:0≤(t25:Int):=of_decide_eq_true zq_;have q32:t25<(y30.length:Int):=(by have h_:(t25:Int)<((x8_1.length:Int):Int):=of_decide_eq_true zq_;first|(have e_:=(Kd.R_reads' HO_8.out).1;omega)|simpa only [Ny30.out,List.length_set] using h_);have ql32:((t25:Int)<((x8_1.length:Int):Int))=True:=eq_true (of_decide_eq_true zq_);obtain ⟨ad32,e32,hx32_0,hx32_1,hx32_2,hx32_3,hx32_4,hx32_5,hx32_6,hx32_7,hx32_8,hx32_9,hx32_10,hx32_11⟩:=at_T79 (Kd.R_reads' HO_8.out).2.2 t25 p32 q32;obtain rfl:(⟨go34,0,none⟩:Addr)=ad32:=(by injection e32);replace hx32_0:=za_ hx32_0;replace hx32_1:=za_ hx32_1;replace hx32_2:=za_ hx32_2;replace hx32_3:=za_ hx32_3;replace hx32_4:=za_ hx32_4;replace hx32_5:=za_ hx32_5;replace hx32_6:=za_ hx32_6;replace hx32_7:=za_ hx32_7;replace hx32_8:=za_ hx32_8;replace hx32_9:=za_ hx32_9;replace hx32_10:=za_ hx32_10;replace hx32_11:=za_ hx32_11;replace p32:=eq_true p32;replace q32:=eq_true q32
    refine start_ (n:=12) (S:=fun w'=>w'.cell? ⟨go34,(t25).toNat*12+2,none⟩=some (.int .i64 ((rd_T79 y30 t25).f2.f0))∧w'.cell? ⟨go34,(t25).toNat*12+3,none⟩=some (.int .i64 ((rd_T79 y30 t25).f2.f1))∧w'.cell? ⟨go34,(t25).toNat*12+4,none⟩=some (.int .i64 ((rd_T79 y30 t25).f2.f2))∧w'.cell? ⟨go34,(t25).toNat*12+8,none⟩=some (.int .i64 ((rd_T79 y30 t25).f4.f0))∧w'.cell? ⟨go34,(t25).toNat*12+9,none⟩=some (.int .i64 ((rd_T79 y30 t25).f4.f1))∧w'.cell? ⟨go34,(t25).toNat*12+10,none⟩=some (.int .i64 ((rd_T79 y30 t25).f4.f2))) (ds:=[]) (bt_ 12 0) (by kernel_rfl) rfl rfl ⟨hx31_2,hx31_3,hx31_4,hx31_8,hx31_9,hx31_10⟩ (fun hHeld=> ?_);refine with_tabW r10_Admit.tab12 r10_Admit.bits12 (fun HT_ HW_=> ?_);generalize w41.drew=w42 at HO_7 HO_8 BK1 BK2 HB HQ40 hx31_0 hx31_1 hx31_10 hx31_11 hx31_2 hx31_3 hx31_4 hx31_5 hx31_6 hx31_7 hx31_8 hx31_9 hx32_0 hx32_1 hx32_10 hx32_11 hx32_2 hx32_3 hx32_4 hx32_5 hx32_6 hx32_7 hx32_8 hx32_9 hHeld ⊢;refine ru_ 0 HT_ ?_;refine ru_ 1 HT_ ?_;refine ru_ 2 HT_ ?_;refine ru_ 3 HT_ ?_;refine ru_ 5 HT_ ?_;refine ru_ 6 HT_ ?_;refine ru_ 7 HT_ ?_;refine ru_ 8 HT_ ?_;refine rk_ 4 HT_ HW_ hHeld ?_;refine rk_ 9 HT_ HW_ hHeld ?_;refine on_ (i:=10) (N:=some 58) (bt_ 12 2047) HT_ (fun K hK=> ?_);refine gs_ Try.func71 #[.agg #[.int .i64 ((rd_T79 y30 t25).f4.f0), .int .i64 ((rd_T79 y30 t25).f4.f1), .int .i64 ((rd_T79 y30 t25).f4.f2)], .agg #[.int .i64 ((rd_T79 y30 t25).f2.f0), .int .i64 ((rd_T79 y30 t25).f2.f1), .int .i64 ((rd_T79 y30 t25).f2.f2)]] ?_
    with_reducible refine (r10_Le.calls ((rd_T79 y30 t25).f4.f0) ((rd_T79 y30 t25).f4.f1) ((rd_T79 y30 t25).f4.f2) ((rd_T79 y30 t25).f2.f0) ((rd_T79 y30 t25).f2.f1) ((rd_T79 y30 t25).f2.f2) true _ A35.out).mono ?_
    rintro e w43 ⟨rfl,hb⟩;have HS_:=And.intro hb hHeld;refine ⟨_,rfl, ?_⟩;replace HO_7:=ob_ HO_7 hb;replace HO_8:=ob_ HO_8 hb;replace BK1:=bb_ BK1 hb;replace BK2:=bb_ BK2 hb;replace HB:=am_ (below_step (zl2_ HB GE1 GE2) hb);(try clear hb);refine hK.out _ _ (hk_ HS_) (fun hHeld=> ?_);clear hK K;refine no_ (N:=some 58) ?_;refine ru_ 11 HT_ ?_;refine done_ (done_of HT_.out (by kernel_rfl)) ?_;try go_wp2
    go_roundg k1
    case measure=>have:=HK1.out;omega
    case rel=>exact ⟨(y30),(wrap64 (x9_1+1)),(x3001_1),rf_,H',⟨by have:=HK1.out;omega⟩,am_ (zr_ HO_7),am_ (zr_ HO_8),am_ (zb_ BK1),am_ (zb_ BK2),⟨zl2_ HB GE1 GE2⟩⟩
   replace c36:=Bool.eq_false_iff.mpr c36;subst c36;rw [if_neg (show¬(false=true) by decide)] at H;replace H:=zbd_ H;obtain ⟨⟨t34,t37⟩,A44,H⟩:=H;try dsimp only at H
   simp only [Option.some.injEq,Prod.mk.injEq] at H;obtain ⟨rfl,rfl⟩:=H;obtain ⟨p24,q24,ad24,e24,hx24_0⟩:=zat_ (Kd.at_string (Kd.R_reads' HO_7.out).2.2 x9_1);cases e24;obtain ⟨Ao45,co45,eo45⟩:=Kd.R_slice HO_8.out;subst eo45;try go_wp2_with (first|((with_reducible refine gate_callee (f:=52) rfl ?_);refine gl_ (some 36) Try.func52 #[.slice Ao45 x8_1.length co45, .string (rdOf ByteArray.empty t3 x9_1)] ?_;(with_reducible refine (r10_Find.calls k1 _ _ x8_1 (rdOf ByteArray.empty t3 x9_1) t25 _ ?side1 ?side2 A30.out).mono ?_);(case side1=>exact zc_ (Kd.R_reads' HO_8.out).2.2);(case side2=>exact (Kd.R_reads' HO_8.out).2.1);rintro e w' ⟨rfl,⟨nd,rfl⟩⟩;refine ⟨_,rfl, ?_⟩;(try (rw [drewN_self wr];generalize hq_:World.drewN wr _=wr;replace HO_7:=am_ (Kd.R_at hq_ HO_7.out);replace HO_8:=am_ (Kd.R_at hq_ HO_8.out);replace BK1:=am_ (blk_at hq_ BK1.out);replace BK2:=am_ (blk_at hq_ BK2.out);replace HB:=am_ (below_at hq_ HB.out);clear hq_))))
   replace HO_7:=am_ (Kd.R_drew HO_7.out);replace HO_8:=am_ (Kd.R_drew HO_8.out);replace BK1:=am_ (blk_drew BK1.out);replace BK2:=am_ (blk_drew BK2.out);replace HB:=am_ (below_drew1 HB.out);obtain ⟨p26,q26,ad26,e26,hx26_0,hx26_1,hx26_2,hx26_3,hx26_4,hx26_5,hx26_6,hx26_7,hx26_8,hx26_9,hx26_10,hx26_11⟩:=zat_ (at_T79 (Kd.R_reads' HO_8.out).2.2 t25);cases e26
   refine start_ (n:=12) (S:=fun w'=>w'.cell? ⟨gb1,0,none⟩=some (.int .i64 a2_0)∧w'.cell? ⟨gb1,1,none⟩=some (.int .i64 a2_1)∧w'.cell? ⟨gb1,2,none⟩=some (.int .i64 a2_2)∧w'.cell? (ad26.add ((t25).toNat*12))=some (.string ((rd_T79 x8_1 t25).f0))∧w'.cell? ⟨(ad26.add ((t25).toNat*12)).block,(ad26.add ((t25).toNat*12)).off+1,none⟩=some (.string ((rd_T79 x8_1 t25).f1))∧w'.cell? ⟨(ad26.add ((t25).toNat*12)).block,(ad26.add ((t25).toNat*12)).off+2,none⟩=some (.int .i64 ((rd_T79 x8_1 t25).f2.f0))∧w'.cell? ⟨(ad26.add ((t25).toNat*12)).block,(ad26.add ((t25).toNat*12)).off+3,none⟩=some (.int .i64 ((rd_T79 x8_1 t25).f2.f1))∧w'.cell? ⟨(ad26.add ((t25).toNat*12)).block,(ad26.add ((t25).toNat*12)).off+4,none⟩=some (.int .i64 ((rd_T79 x8_1 t25).f2.f2))∧w'.cell? ⟨(ad26.add ((t25).toNat*12)).block,(ad26.add ((t25).toNat*12)).off+5,none⟩=some (.int .i64 ((rd_T79 x8_1 t25).f3.f0))∧w'.cell? ⟨(ad26.add ((t25).toNat*12)).block,(ad26.add ((t25).toNat*12)).off+6,none⟩=some (.int .i64 ((rd_T79 x8_1 t25).f3.f1))∧w'.cell? ⟨(ad26.add ((t25).toNat*12)).block,(ad26.add ((t25).toNat*12)).off+7,none⟩=some (.int .i64 ((rd_T79 x8_1 t25).f3.f2))∧w'.cell? ⟨(ad26.add ((t25).toNat*12)).block,(ad26.add ((t25).toNat*12)).off+8,none⟩=some (.int .i64 ((rd_T79 x8_1 t25).f4.f0))∧w'.cell? ⟨(ad26.add ((t25).toNat*12)).block,(ad26.add ((t25).toNat*12)).off+9,none⟩=some (.int .i64 ((rd_T79 x8_1 t25).f4.f1))∧w'.cell? ⟨(ad26.add ((t25).toNat*12)).block,(ad26.add ((t25).toNat*12)).off+10,none⟩=some (.int .i64 ((rd_T79 x8_1 t25).f4.f2))∧w'.cell? ⟨(ad26.add ((t25).toNat*12)).block,(ad26.add ((t25).toNat*12)).off+11,none⟩=some (.int .i64 ((rd_T79 x8_1 t25).f5))) (ds:=[11]) (bs_ 12 0) (by kernel_rfl) rfl rfl ⟨(blk_cell BK1.out 0).trans rfl,(blk_cell BK1.out 1).trans rfl,(blk_cell BK1.out 2).trans rfl,hx26_0,hx26_1,hx26_2,hx26_3,hx26_4,hx26_5,hx26_6,hx26_7,hx26_8,hx26_9,hx26_10,hx26_11⟩ (fun hHeld=> ?_);refine with_tabW r10_Admit.tab11 r10_Admit.bits11 (fun HT_ HW_=> ?_)
   generalize wr.drew=w46 at HO_7 HO_8 BK1 BK2 HB hx26_0 hx26_1 hx26_10 hx26_11 hx26_2 hx26_3 hx26_4 hx26_5 hx26_6 hx26_7 hx26_8 hx26_9 hHeld ⊢;(iterate 6 refine qu_ HT_ ?_);(iterate 2 refine qk_ HT_ HW_ hHeld ?_);refine on_ (i:=8) (N:=some 45) (bs_ 12 9) HT_ (fun K hK=> ?_);refine gs_ Try.func70 #[.agg #[.int .i64 ((rd_T79 x8_1 t25).f4.f0), .int .i64 ((rd_T79 x8_1 t25).f4.f1), .int .i64 ((rd_T79 x8_1 t25).f4.f2)], .agg #[.int .i64 a2_0, .int .i64 a2_1, .int .i64 a2_2]] ?_
   with_reducible refine (r10_Add.calls ((rd_T79 x8_1 t25).f4.f0) ((rd_T79 x8_1 t25).f4.f1) ((rd_T79 x8_1 t25).f4.f2) a2_0 a2_1 a2_2 t27 t28 t29 _ A33.out).mono ?_
   rintro e w47 ⟨rfl,hb⟩;have HS3_:=zh_ hb (hHeld.2.2.2.1);have HS4_:=zh_ hb (hHeld.2.2.2.2.1);have HS5_:=zh_ hb (hHeld.2.2.2.2.2.1);have HS6_:=zh_ hb (hHeld.2.2.2.2.2.2.1);have HS7_:=zh_ hb (hHeld.2.2.2.2.2.2.2.1);have HS8_:=zh_ hb (hHeld.2.2.2.2.2.2.2.2.1);have HS9_:=zh_ hb (hHeld.2.2.2.2.2.2.2.2.2.1);have HS10_:=zh_ hb (hHeld.2.2.2.2.2.2.2.2.2.2.1);have HS11_:=zh_ hb (hHeld.2.2.2.2.2.2.2.2.2.2.2.1);have HS12_:=zh_ hb (hHeld.2.2.2.2.2.2.2.2.2.2.2.2.1);have HS13_:=zh_ hb (hHeld.2.2.2.2.2.2.2.2.2.2.2.2.2.1);have HS14_:=zh_ hb (hHeld.2.2.2.2.2.2.2.2.2.2.2.2.2.2);refine ⟨_,rfl, ?_⟩;replace HO_7:=ob_ HO_7 hb;replace HO_8:=ob_ HO_8 hb;replace BK1:=bb_ BK1 hb;replace BK2:=bb_ BK2 hb;replace HB:=am_ (below_step (zl2_ HB GE1 GE2) hb);(try clear hb);have p34:0≤(t25:Int):=of_decide_eq_true zq_;have q34:(t25:Int)<((x8_1.length:Int):Int):=of_decide_eq_true zq_;obtain ⟨go34,co34,eo34,gb34,gl34,cl34,HG34⟩:=Kd.R_form HO_8.out (by omega);(first|cases eo34|(injection eo34 with ea_ en_ ec_;(first|subst ea_|(injection ea_ with ea_;subst ea_));subst ec_;clear en_));have GB34:=Aside0.mk gb34;have GG34:=Aside0.mk HG34;clear gb34 gl34 HG34;replace hx26_0:=zv_ hx26_0;replace hx26_1:=zv_ hx26_1;replace hx26_2:=zv_ hx26_2;replace hx26_3:=zv_ hx26_3;replace hx26_4:=zv_ hx26_4;replace hx26_5:=zv_ hx26_5;replace hx26_6:=zv_ hx26_6;replace hx26_7:=zv_ hx26_7;replace hx26_8:=zv_ hx26_8;replace hx26_9:=zv_ hx26_9;replace hx26_10:=zv_ hx26_10;replace hx26_11:=zv_ hx26_11
   obtain ⟨ce34,hcl34,hM34,hcc34,hfr34⟩:=Kd.R_elem HO_8.out z79 (t25:Int) p34 q34;obtain rfl:=k79_openM hM34;obtain ⟨hx34_0,hx34_1,hx34_2,hx34_3,hx34_4,hx34_5,hx34_6,hx34_7,hx34_8,hx34_9,hx34_10,hx34_11⟩:=rc12_ (m:=(t25:Int).toNat*12) hcc34;obtain ⟨hf34_0,hf34_1,hf34_2,hf34_3,hf34_4,hf34_5,hf34_6,hf34_7,hf34_8,hf34_9,hf34_10,hf34_11⟩:=rg12_ (m:=(t25:Int).toNat*12) hfr34;clear hcl34 hcc34 hfr34 hM34;replace p34:=eq_true p34;replace q34:=eq_true q34;obtain ⟨ce48,hcl48,hM48,hcc48,hfr48⟩:=Kd.R_elem HO_8.out z79 (t25:Int) (of_decide_eq_true zq_) (by have h_:(t25:Int)<((x8_1.length:Int):Int):=of_decide_eq_true zq_;first|exact h_|(have e_:=(Kd.R_reads' HO_8.out).1;omega)|simpa using h_);obtain rfl:=k79_openM hM48
   have HP48:=(Kd.R_seg HO_8.out (t25:Int) (of_decide_eq_true zq_) (by have h_:(t25:Int)<((x8_1.length:Int):Int):=of_decide_eq_true zq_;first|exact h_|(have e_:=(Kd.R_reads' HO_8.out).1;omega)|simpa using h_) (seg:=[.int .i64 t27, .int .i64 t28, .int .i64 t29]) (j:=8) hcl48 hcc48 (show 11≤12 from by decide) (x':=(⟨(rd_T79 x8_1 t25).f0,(rd_T79 x8_1 t25).f1,(⟨(rd_T79 x8_1 t25).f2.f0,(rd_T79 x8_1 t25).f2.f1,(rd_T79 x8_1 t25).f2.f2⟩:S37),(⟨(rd_T79 x8_1 t25).f3.f0,(rd_T79 x8_1 t25).f3.f1,(rd_T79 x8_1 t25).f3.f2⟩:S37),(⟨t27,t28,t29⟩:S37),(rd_T79 x8_1 t25).f5⟩:S79)) (k79_mkM _ _ _ (⟨(rd_T79 x8_1 t25).f0,(rd_T79 x8_1 t25).f1,(⟨(rd_T79 x8_1 t25).f2.f0,(rd_T79 x8_1 t25).f2.f1,(rd_T79 x8_1 t25).f2.f2⟩:S37),(⟨(rd_T79 x8_1 t25).f3.f0,(rd_T79 x8_1 t25).f3.f1,(rd_T79 x8_1 t25).f3.f2⟩:S37),(⟨t27,t28,t29⟩:S37),(rd_T79 x8_1 t25).f5⟩:S79)) (fun _ hk=>hk)).1;rw [←Ny30.out] at HP48;have HQ48:=Aside0.mk HP48;clear hcl48 hcc48 hfr48 hM48 HP48;refine hK.out _ _ ⟨(blk_cell BK1.out 0).trans rfl,(blk_cell BK1.out 1).trans rfl,(blk_cell BK1.out 2).trans rfl,HS3_,HS4_,HS5_,HS6_,HS7_,HS8_,HS9_,HS10_,HS11_,HS12_,HS13_,HS14_⟩ (fun hHeld=> ?_);clear hK K;refine no_ (N:=some 45) ?_;(iterate 2 refine qu_ HT_ ?_);refine last_ (i:=11) (N:=none) (bs_ 12 12) rfl rfl (one_of HT_.out (by kernel_rfl)) (by decide) (fun K hK=> ?_);refine skip_ (w1:= ?_) (by rfl) rfl ?_ ?_;rotate_left
   ·go_simp
    rfl
   refine hK.out _ _ ?_;clear hK K;refine done_ (done_of HT_.out (by kernel_rfl)) ?_;have n0_:Aside0 (Kd.R Kd.string 9 (((w47.setCell ⟨go34,(t25:Int).toNat*12+8,none⟩ (.int .i64 t27)).setCell ⟨go34,(t25:Int).toNat*12+9,none⟩ (.int .i64 t28)).setCell ⟨go34,(t25:Int).toNat*12+10,none⟩ (.int .i64 t29)) w.heap.size (fun _=>True) (.slice (some ad24) t3.length co26) t3):=⟨by (with_reducible repeat (first|apply Kd.R_alloc|apply Kd.R_drewN|apply Kd.R_drew));exact Kd.R_mono (Kd.R_far (p:=⟨go34,(t25:Int).toNat*12+10,none⟩) (Kd.R_far (p:=⟨go34,(t25:Int).toNat*12+9,none⟩) (Kd.R_far (p:=⟨go34,(t25:Int).toNat*12+8,none⟩) (Kd.R_types HO_7.out GG34.out (by decide)) (fun _ hk=>hk.2) (.int .i64 t27)) (fun _ hk=>hk.2) (.int .i64 t28)) (fun _ hk=>hk.2) (.int .i64 t29)) (fun _ hk=>trivial)⟩;have n1_:Aside0 (Kd.R k79 79 (((w47.setCell ⟨go34,(t25:Int).toNat*12+8,none⟩ (.int .i64 t27)).setCell ⟨go34,(t25:Int).toNat*12+9,none⟩ (.int .i64 t28)).setCell ⟨go34,(t25:Int).toNat*12+10,none⟩ (.int .i64 t29)) w.heap.size (fun _=>True) (.slice (some ⟨go34,0,none⟩) x8_1.length co45) y30):=am_ (zr_ HQ48)
   have n2_:Aside0 ((((w47.setCell ⟨go34,(t25:Int).toNat*12+8,none⟩ (.int .i64 t27)).setCell ⟨go34,(t25:Int).toNat*12+9,none⟩ (.int .i64 t28)).setCell ⟨go34,(t25:Int).toNat*12+10,none⟩ (.int .i64 t29)).heap[gb1]?=some (.cells #[.int .i64 a2_0, .int .i64 a2_1, .int .i64 a2_2] 37 (0,0))):=⟨by refine zk_ ?_;refine blk_far ?_ (by have h_:=Kd.R_ne HO_8.out BK1.out (by decide);intro e_;exact h_ (by rw [e_];rfl)) _;refine zk_ ?_;refine blk_far ?_ (by have h_:=Kd.R_ne HO_8.out BK1.out (by decide);intro e_;exact h_ (by rw [e_];rfl)) _;refine zk_ ?_;refine blk_far ?_ (by have h_:=Kd.R_ne HO_8.out BK1.out (by decide);intro e_;exact h_ (by rw [e_];rfl)) _;refine zk_ ?_;exact BK1.out⟩;have n3_:Aside0 ((((w47.setCell ⟨go34,(t25:Int).toNat*12+8,none⟩ (.int .i64 t27)).setCell ⟨go34,(t25:Int).toNat*12+9,none⟩ (.int .i64 t28)).setCell ⟨go34,(t25:Int).toNat*12+10,none⟩ (.int .i64 t29)).heap[gb2]?=some (.cells #[.slice none 0 0, .int .i64 x3001_1] 73 (0,0))):=⟨by refine zk_ ?_;refine blk_far ?_ (by have h_:=Kd.R_ne HO_8.out BK2.out (by decide);intro e_;exact h_ (by rw [e_];rfl)) _;refine zk_ ?_;refine blk_far ?_ (by have h_:=Kd.R_ne HO_8.out BK2.out (by decide);intro e_;exact h_ (by rw [e_];rfl)) _;refine zk_ ?_;refine blk_far ?_ (by have h_:=Kd.R_ne HO_8.out BK2.out (by decide);intro e_;exact h_ (by rw [e_];rfl)) _;refine zk_ ?_;exact BK2.out⟩
   have n4_:Aside0 (Below w.heap.size w (((w47.setCell ⟨go34,(t25:Int).toNat*12+8,none⟩ (.int .i64 t27)).setCell ⟨go34,(t25:Int).toNat*12+9,none⟩ (.int .i64 t28)).setCell ⟨go34,(t25:Int).toNat*12+10,none⟩ (.int .i64 t29))):=⟨by repeat (first|(with_reducible first|exact HB.out|apply below_alloc|apply pw_below_drewN|apply below_drew1|refine below_set ?_ GB34.out|refine below_set ?_ GB34.out|refine below_set ?_ GB34.out|refine below_set ?_ GE1.out|refine below_set ?_ GE2.out)|exact HB.out)⟩;generalize (((w47.setCell ⟨go34,(t25:Int).toNat*12+8,none⟩ (.int .i64 t27)).setCell ⟨go34,(t25:Int).toNat*12+9,none⟩ (.int .i64 t28)).setCell ⟨go34,(t25:Int).toNat*12+10,none⟩ (.int .i64 t29))=w49 at n0_ n1_ n2_ n3_ n4_ ⊢;have HO_7:=n0_;have HO_8:=n1_;have BK1:=n2_;have BK2:=n3_;have HB:=n4_;clear n0_ n1_ n2_ n3_ n4_;try go_wp2
   replace HO_7:=am_ (Kd.R_drew HO_7.out);replace HO_8:=am_ (Kd.R_drew HO_8.out);replace BK1:=am_ (blk_drew BK1.out);replace BK2:=am_ (blk_drew BK2.out);replace HB:=am_ (below_drew1 HB.out);have p31:0≤(t25:Int):=of_decide_eq_true zq_;have q31:t25<(y30.length:Int):=(by have h_:(t25:Int)<((x8_1.length:Int):Int):=of_decide_eq_true zq_;first|(have e_:=(Kd.R_reads' HO_8.out).1;omega)|simpa only [Ny30.out,List.length_set] using h_);have ql31:((t25:Int)<((x8_1.length:Int):Int))=True:=eq_true (of_decide_eq_true zq_);obtain ⟨ad31,e31,hx31_0,hx31_1,hx31_2,hx31_3,hx31_4,hx31_5,hx31_6,hx31_7,hx31_8,hx31_9,hx31_10,hx31_11⟩:=at_T79 (Kd.R_reads' HO_8.out).2.2 t25 p31 q31;obtain rfl:(⟨go34,0,none⟩:Addr)=ad31:=(by injection e31);replace hx31_0:=za_ hx31_0;replace hx31_1:=za_ hx31_1;replace hx31_2:=za_ hx31_2;replace hx31_3:=za_ hx31_3;replace hx31_4:=za_ hx31_4;replace hx31_5:=za_ hx31_5;replace hx31_6:=za_ hx31_6;replace hx31_7:=za_ hx31_7;replace hx31_8:=za_ hx31_8;replace hx31_9:=za_ hx31_9;replace hx31_10:=za_ hx31_10;replace hx31_11:=za_ hx31_11;replace p31:=eq_true p31;replace q31:=eq_true q31;have p32:0≤(t25:Int):=of_decide_eq_true zq_;have q32:t25<(y30.length:Int):=(by have h_:(t25:Int)<((x8_1.length:Int):Int):=of_decide_eq_true zq_;first|(have e_:=(Kd.R_reads' HO_8.out).1;omega)|simpa only [Ny30.out,List.length_set] using h_);have ql32:((t25:Int)<((x8_1.length:Int):Int))=True:=eq_true (of_decide_eq_true zq_)
   obtain ⟨ad32,e32,hx32_0,hx32_1,hx32_2,hx32_3,hx32_4,hx32_5,hx32_6,hx32_7,hx32_8,hx32_9,hx32_10,hx32_11⟩:=at_T79 (Kd.R_reads' HO_8.out).2.2 t25 p32 q32;obtain rfl:(⟨go34,0,none⟩:Addr)=ad32:=(by injection e32);replace hx32_0:=za_ hx32_0;replace hx32_1:=za_ hx32_1;replace hx32_2:=za_ hx32_2;replace hx32_3:=za_ hx32_3;replace hx32_4:=za_ hx32_4;replace hx32_5:=za_ hx32_5;replace hx32_6:=za_ hx32_6;replace hx32_7:=za_ hx32_7;replace hx32_8:=za_ hx32_8;replace hx32_9:=za_ hx32_9;replace hx32_10:=za_ hx32_10;replace hx32_11:=za_ hx32_11;replace p32:=eq_true p32;replace q32:=eq_true q32;refine start_ (n:=12) (S:=fun w'=>w'.cell? ⟨go34,(t25).toNat*12+2,none⟩=some (.int .i64 ((rd_T79 y30 t25).f2.f0))∧w'.cell? ⟨go34,(t25).toNat*12+3,none⟩=some (.int .i64 ((rd_T79 y30 t25).f2.f1))∧w'.cell? ⟨go34,(t25).toNat*12+4,none⟩=some (.int .i64 ((rd_T79 y30 t25).f2.f2))∧w'.cell? ⟨go34,(t25).toNat*12+8,none⟩=some (.int .i64 ((rd_T79 y30 t25).f4.f0))∧w'.cell? ⟨go34,(t25).toNat*12+9,none⟩=some (.int .i64 ((rd_T79 y30 t25).f4.f1))∧w'.cell? ⟨go34,(t25).toNat*12+10,none⟩=some (.int .i64 ((rd_T79 y30 t25).f4.f2))) (ds:=[]) (bt_ 12 0) (by kernel_rfl) rfl rfl ⟨hx31_2,hx31_3,hx31_4,hx31_8,hx31_9,hx31_10⟩ (fun hHeld=> ?_);refine with_tabW r10_Admit.tab12 r10_Admit.bits12 (fun HT_ HW_=> ?_)
   generalize w49.drew=w50 at HO_7 HO_8 BK1 BK2 HB hx31_0 hx31_1 hx31_10 hx31_11 hx31_2 hx31_3 hx31_4 hx31_5 hx31_6 hx31_7 hx31_8 hx31_9 hx32_0 hx32_1 hx32_10 hx32_11 hx32_2 hx32_3 hx32_4 hx32_5 hx32_6 hx32_7 hx32_8 hx32_9 hHeld ⊢;refine ru_ 0 HT_ ?_;refine ru_ 1 HT_ ?_;refine ru_ 2 HT_ ?_;refine ru_ 3 HT_ ?_;refine ru_ 5 HT_ ?_;refine ru_ 6 HT_ ?_;refine ru_ 7 HT_ ?_;refine ru_ 8 HT_ ?_;refine rk_ 4 HT_ HW_ hHeld ?_;refine rk_ 9 HT_ HW_ hHeld ?_;refine on_ (i:=10) (N:=some 58) (bt_ 12 2047) HT_ (fun K hK=> ?_);refine gs_ Try.func71 #[.agg #[.int .i64 ((rd_T79 y30 t25).f4.f0), .int .i64 ((rd_T79 y30 t25).f4.f1), .int .i64 ((rd_T79 y30 t25).f4.f2)], .agg #[.int .i64 ((rd_T79 y30 t25).f2.f0), .int .i64 ((rd_T79 y30 t25).f2.f1), .int .i64 ((rd_T79 y30 t25).f2.f2)]] ?_
   with_reducible refine (r10_Le.calls ((rd_T79 y30 t25).f4.f0) ((rd_T79 y30 t25).f4.f1) ((rd_T79 y30 t25).f4.f2) ((rd_T79 y30 t25).f2.f0) ((rd_T79 y30 t25).f2.f1) ((rd_T79 y30 t25).f2.f2) false _ A35.out).mono ?_
   rintro e w51 ⟨rfl,hb⟩;have HS_:=And.intro hb hHeld;refine ⟨_,rfl, ?_⟩;replace HO_7:=ob_ HO_7 hb;replace HO_8:=ob_ HO_8 hb;replace BK1:=bb_ BK1 hb;replace BK2:=bb_ BK2 hb;replace HB:=am_ (below_step (zl2_ HB GE1 GE2) hb);(try clear hb);refine hK.out _ _ (hk_ HS_) (fun hHeld=> ?_);clear hK K;refine no_ (N:=some 58) ?_;refine ru_ 11 HT_ ?_;refine done_ (done_of HT_.out (by kernel_rfl)) ?_;try go_wp2_with (first|((with_reducible refine gate_callee (f:=101) rfl ?_);refine gl_ (some 60) Try.func101 #[.int .i64 12] ?_;(with_reducible refine (r10_no.calls 12 t34 t37 _ A44.out).mono ?_);rintro e w52 ⟨v35,rfl,ho0,hb⟩;refine ⟨_,rfl, ?_⟩;replace HO_7:=ob_ HO_7 hb;have HO36:=am_ (Kd.R_lower (Kd.R_new' ho0 (Kd.R_lt (zr_ HO_8))) (below_size (zl2_ HB GE1 GE2)));replace HO_8:=am_ (Kd.R_elder' (zr_ HO_8) (Kd.R_base ho0) hb);replace BK1:=bb_ BK1 hb;replace BK2:=bb_ BK2 hb;replace HB:=am_ (below_step (zl2_ HB GE1 GE2) hb);(try clear hb ho0);obtain ⟨Ao53,co53,eo53⟩:=Kd.R_slice HO36.out;subst eo53;have hnb54:=NB2_1.out;have hnc54:=NB1_2.out;obtain ⟨hcz55_0,hcz55_1⟩:=x2_ BK2;have hfz55_0:=blk_frozen BK2.out 0;have hfz55_1:=blk_frozen BK2.out 1))
   refine bodyPost_ret (results_cell_row rfl _ _ gb2 73 #[.slice Ao53 t34.length co53, .int .i64 t37] (0,0) _ rfl (zw_ BK2) Try.underlying73 rfl (by kernel_rfl)) rfl ?_;exact ⟨_,by first|rfl|(simp [errW_none,errW_some]<;>rfl)|(simp [*,errW_none,errW_some]<;>rfl),zy_ HO36 BK2,zl2_ HB GE1 GE2⟩
mutual
def r10_Create.j0:Nat→List (S79)→ByteArray→ByteArray→Bool→Int→Int→Int→Option ((List (S79))×Int)
 |0,_,_,_,_,_,_,_=>none
 |k+1,x0,x1,x2,x11,x2000,x2001,x2002=>if x11=true then ((r10_no.f 1).bind fun bt5=>(some (bt5.1,bt5.2))) else ((r10_Find.f k x0 x1).bind fun t9=>(if t9≥0 then ((r10_no.f 3).bind fun bt10=>(some (bt10.1,bt10.2))) else (if x2.toList=([]:List UInt8) then (r10_Create.j1 k x0 x1 x2 false x2000 x2001 x2002) else ((r10_Find.f k x0 x2).bind fun t14=>(r10_Create.j1 k x0 x1 x2 (decide (t14<0)) x2000 x2001 x2002)))))
def r10_Create.j1:Nat→List (S79)→ByteArray→ByteArray→Bool→Int→Int→Int→Option ((List (S79))×Int)
 |0,_,_,_,_,_,_,_=>none
 |k+1,x0,x1,x2,x27,x2000,x2001,x2002=>if x27=true then ((r10_no.f 2).bind fun bt15=>(some (bt15.1,bt15.2))) else (if (x0.length:Int)≥120 then ((r10_no.f 4).bind fun bt19=>(some (bt19.1,bt19.2))) else (r10_Create.l0 k x0 x1 x2 0 x2000 x2001 x2002))
def r10_Create.l0:Nat→List (S79)→ByteArray→ByteArray→Int→Int→Int→Int→Option ((List (S79))×Int)
 |0,_,_,_,_,_,_,_=>none
 |k+1,x0,x1,x2,x9,x2000,x2001,x2002=>if x9<(x0.length:Int) then (if 0≤x9 then (if (Op.bytesLess (((rd_T79 x0 x9).f0).toList) x1.toList)=true then (r10_Create.l0 k x0 x1 x2 (wrap64 (x9+1)) x2000 x2001 x2002) else (if x9≤(x0.length:Int) then ((r10_copied.f (x0.take (x9:Int).toNat)).bind fun t28=>(if t28.length<1256584717458 then ((some (t28++ [(⟨x1,x2,(⟨x2000,x2001,x2002⟩:S37),(⟨0,0,0⟩:S37),(⟨0,0,0⟩:S37),1⟩:S79)]:List (S79))).bind fun y31=>((some (x0.drop (x9:Int).toNat:List (S79))).bind fun y34=>(if y31.length+y34.length<1256584717458 then (some ((y31++y34),0)) else (none)))) else (none))) else (none))) else (none)) else (if 0≤x9 then (if x9≤(x0.length:Int) then ((r10_copied.f (x0.take (x9:Int).toNat)).bind fun t45=>(if t45.length<1256584717458 then ((some (t45++ [(⟨x1,x2,(⟨x2000,x2001,x2002⟩:S37),(⟨0,0,0⟩:S37),(⟨0,0,0⟩:S37),1⟩:S79)]:List (S79))).bind fun y48=>((some (x0.drop (x9:Int).toNat:List (S79))).bind fun y51=>(if y48.length+y51.length<1256584717458 then (some ((y48++y51),0)) else (none)))) else (none))) else (none)) else (none))
end
def r10_Create.f (k:Nat) (l0:List (S79)) (a1:ByteArray) (a2:ByteArray) (a3_0:Int) (a3_1:Int) (a3_2:Int):Option ((List (S79))×Int):=(r10_MayName.f a1).bind fun t3=>(if t3=true then ((r10_MayVec.f a3_0 a3_1 a3_2).bind fun t4=>(r10_Create.j0 k l0 a1 a2 (!t4) a3_0 a3_1 a3_2)) else (r10_Create.j0 k l0 a1 a2 true a3_0 a3_1 a3_2))
theorem r10_Create.mono_l: ∀k,(∀y0 y1 y2 y3 y4 y5 y6,LeO (r10_Create.j0 k y0 y1 y2 y3 y4 y5 y6) (r10_Create.j0 (k+1) y0 y1 y2 y3 y4 y5 y6))∧(∀y0 y1 y2 y3 y4 y5 y6,LeO (r10_Create.j1 k y0 y1 y2 y3 y4 y5 y6) (r10_Create.j1 (k+1) y0 y1 y2 y3 y4 y5 y6))∧(∀y0 y1 y2 y3 y4 y5 y6,LeO (r10_Create.l0 k y0 y1 y2 y3 y4 y5 y6) (r10_Create.l0 (k+1) y0 y1 y2 y3 y4 y5 y6))
 |0=>⟨fun _ _ _ _ _ _ _ r h=>by simp [r10_Create.j0] at h,fun _ _ _ _ _ _ _ r h=>by simp [r10_Create.j1] at h,fun _ _ _ _ _ _ _ r h=>by simp [r10_Create.l0] at h⟩
 |k+1=>by
  obtain ⟨ih0,ih1,ih2⟩:=r10_Create.mono_l k;refine ⟨?_, ?_, ?_⟩<;>(intros;first|unfold r10_Create.j0|unfold r10_Create.j1|unfold r10_Create.l0)<;>repeat' with_reducible first|apply ih0|apply ih1|apply ih2|apply r10_Find.mono|apply LeO.refl|apply LeO.none|apply LeO.ite|refine LeO.bind ?_ fun _=> ?_
theorem r10_Create.mono: ∀a0 a1 a2 a3 a4 a5 k,LeO (r10_Create.f k a0 a1 a2 a3 a4 a5) (r10_Create.f (k+1) a0 a1 a2 a3 a4 a5):=by
 intro a0 a1 a2 a3 a4 a5 k;obtain ⟨ih0,ih1,ih2⟩:=r10_Create.mono_l k;unfold r10_Create.f
 repeat' with_reducible first|apply ih0|apply ih1|apply ih2|apply r10_Find.mono|apply LeO.refl|apply LeO.none|apply LeO.ite|refine LeO.bind ?_ fun _=> ?_
set_option maxHeartbeats 8000000 in
set_option maxRecDepth 100000 in
theorem r10_Create.calls (k:Nat) (A0:Option Addr) (c0:Nat) (l0:List (S79)) (a1:ByteArray) (a2:ByteArray) (a3_0:Int) (a3_1:Int) (a3_2:Int) (r1:List (S79)) (r2:Int) (w:World) (hr0:Kd.C k79 w A0 l0.length l0) (hc0:l0.length≤c0) (h:r10_Create.f k l0 a1 a2 a3_0 a3_1 a3_2=some (r1,r2)):
  Calls Try.prog 83 #[.slice A0 l0.length c0, .string a1, .string a2, .agg #[.int .i64 a3_0, .int .i64 a3_1, .int .i64 a3_2]] w fun e w'=> ∃v0_:Value,e= .returned (.agg #[v0_, .int .i64 r2])∧Kd.R k79 79 w' w.heap.size (fun _=>True) v0_ r1∧Below w.heap.size w w':=by
 have hu37:=Try.underlying37;have hu73:=Try.underlying73;have hu79:=Try.underlying79;have HR0:=Aside0.mk hr0;have HC0:=Aside0.mk hc0;clear hr0 hc0;have HB:=am_ (Below.refl w.heap.size w);have H:((r10_MayName.f a1).bind fun t3=>(if t3=true then ((r10_MayVec.f a3_0 a3_1 a3_2).bind fun t4=>(r10_Create.j0 k l0 a1 a2 (!t4) a3_0 a3_1 a3_2)) else (r10_Create.j0 k l0 a1 a2 true a3_0 a3_1 a3_2)))=some (r1,r2):=h;clear h;have HC5:=Aside0.mk H;clear H;go_enter Try.func83,Try.ntmps83;go_upto_region 1 with (first|((with_reducible refine gate_dst (N:=7) rfl ?_);refine bx_ (N:=7) (cs:=#[.int .i64 a3_0, .int .i64 a3_1, .int .i64 a3_2]) (t:=37) ?_;intro gb1 hg w6 hbox hb;have BK1:=am_ (hbox);have GE1:=am_ ((zg0_ HB hg:w.heap.size≤gb1));replace HB:=am_ (below_step (zl0_ HB) hb);clear hb hbox hg)|((with_reducible refine gate_dst (N:=8) rfl ?_);refine bx_ (N:=8) (cs:=#[.slice none 0 0, .int .i64 0]) (t:=73) ?_;intro gb2 hg w7 hbox hb;have BK2:=am_ (hbox);have GE2:=am_ ((zg1_ HB GE1 hg:w.heap.size≤gb2));replace HB:=am_ (below_step (zl1_ HB GE1) hb);have NB1_2:=am_ ((zn_ BK1 hg:gb1≠gb2));have NB2_1:=am_ ((zm_ BK1 hg:gb2≠gb1));replace BK1:=bb_ BK1 hb;clear hb hbox hg))
 (try simp only [Act.put,List.setIfInBounds_toArray,List.set_cons_zero,List.set_cons_succ]);go_cut [11] (fun v11 wc=> ∃(kq:Nat) (x11_4:Bool),v11= .bool x11_4∧Aside0 (r10_Create.j0 kq l0 a1 a2 x11_4 a3_0 a3_1 a3_2=some (r1,r2))∧Aside0 (kq≤k)∧Aside0 (wc.heap[gb1]?=some (.cells #[.int .i64 a3_0, .int .i64 a3_1, .int .i64 a3_2] 37 (0,0)))∧Aside0 (wc.heap[gb2]?=some (.cells #[(.slice none 0 0), .int .i64 0] 73 (0,0)))∧Aside0 (Below w.heap.size w wc))
 case first=>
  have H:=HC5.out;clear HC5;replace H:=zbd_ H;obtain ⟨t3,A8,H⟩:=H;try dsimp only at H
  by_cases c9:t3=true;rotate_left
  ·replace c9:=Bool.eq_false_iff.mpr c9;subst c9;rw [if_neg (show¬(false=true) by decide)] at H;have H':=Aside0.mk H;clear H;go_wp2_with (first|((with_reducible refine gate_callee (f:=67) rfl ?_);refine gl_ (some 13) Try.func67 #[.string a1] ?_;(with_reducible refine (r10_MayName.calls a1 false _ A8.out).mono ?_);rintro e w' ⟨rfl,⟨nd,rfl⟩⟩;refine ⟨_,rfl, ?_⟩))
   go_meet
   case rel=>exact ⟨_,(true),rf_,H',⟨by first|omega|exact Nat.le_refl _⟩,am_ (zb_ BK1),am_ (zb_ BK2),⟨zl2_ HB GE1 GE2⟩⟩
  subst c9;rw [if_pos rfl] at H;replace H:=zbd_ H;obtain ⟨t4,A10,H⟩:=H;try dsimp only at H
  have H':=Aside0.mk H;clear H;go_wp2_with (first|((with_reducible refine gate_callee (f:=67) rfl ?_);refine gl_ (some 13) Try.func67 #[.string a1] ?_;(with_reducible refine (r10_MayName.calls a1 true _ A8.out).mono ?_);rintro e w' ⟨rfl,⟨nd,rfl⟩⟩;refine ⟨_,rfl, ?_⟩;have hnb11:=NB1_2.out;have hnc11:=NB2_1.out;obtain ⟨hcz12_0,hcz12_1,hcz12_2⟩:=x3_ BK1;have hfz12_0:=blk_frozen BK1.out 0;have hfz12_1:=blk_frozen BK1.out 1;have hfz12_2:=blk_frozen BK1.out 2)|(go_at_call 68;(with_reducible refine (r10_MayVec.calls a3_0 a3_1 a3_2 t4 _ A10.out).mono ?_);rintro e w13 ⟨rfl,hb⟩;replace BK1:=bb_ BK1 hb;replace BK2:=bb_ BK2 hb;replace HB:=am_ (below_step (zl2_ HB GE1 GE2) hb);(try clear hb)))
  go_meet
  case rel=>exact ⟨_,(!t4),rf_,H',⟨by first|omega|exact Nat.le_refl _⟩,am_ (zb_ BK1),am_ (zb_ BK2),⟨zl2_ HB GE1 GE2⟩⟩
 case rest=>
  clear HC5;obtain ⟨kq,x11_4,rfl,HA,HJ4,BK1,BK2,HB⟩:=hcut
  cases kq with
  |zero=>exact absurd HA.out (by simp [r10_Create.j0])
  |succ kj4=>
   have H:=HA.out;clear HA;simp only [r10_Create.j0] at H;by_cases c14:x11_4=true
   ·subst c14;rw [if_pos rfl] at H;replace H:=zbd_ H;obtain ⟨⟨t5,t8⟩,A15,H⟩:=H;try dsimp only at H
    simp only [Option.some.injEq,Prod.mk.injEq] at H;obtain ⟨rfl,rfl⟩:=H;go_wp2_with (first|((with_reducible refine gate_callee (f:=101) rfl ?_);refine gl_ (some 20) Try.func101 #[.int .i64 1] ?_;(with_reducible refine (r10_no.calls 1 t5 t8 _ A15.out).mono ?_);rintro e w16 ⟨v6,rfl,ho0,hb⟩;refine ⟨_,rfl, ?_⟩;have HO7:=am_ (Kd.R_lower ho0 (below_size (zl2_ HB GE1 GE2)));replace BK1:=bb_ BK1 hb;replace BK2:=bb_ BK2 hb;replace HB:=am_ (below_step (zl2_ HB GE1 GE2) hb);(try clear hb ho0);obtain ⟨Ao17,co17,eo17⟩:=Kd.R_slice HO7.out;subst eo17;have hnb18:=NB2_1.out;have hnc18:=NB1_2.out;obtain ⟨hcz19_0,hcz19_1⟩:=x2_ BK2;have hfz19_0:=blk_frozen BK2.out 0;have hfz19_1:=blk_frozen BK2.out 1))
    refine bodyPost_ret (results_cell_row rfl _ _ gb2 73 #[.slice Ao17 t5.length co17, .int .i64 t8] (0,0) _ rfl (zw_ BK2) Try.underlying73 rfl (by kernel_rfl)) rfl ?_;exact ⟨_,by first|rfl|(simp [errW_none,errW_some]<;>rfl)|(simp [*,errW_none,errW_some]<;>rfl),zy_ HO7 BK2,zl2_ HB GE1 GE2⟩
   replace c14:=Bool.eq_false_iff.mpr c14;subst c14;rw [if_neg (show¬(false=true) by decide)] at H;replace H:=zbd_ H;obtain ⟨t9,A20,H⟩:=H;try dsimp only at H
   by_cases c21:t9≥0
   ·rw [if_pos c21] at H;have c21b0:decide (0≤t9)=true:=decide_eq_true c21;clear c21;replace H:=zbd_ H;obtain ⟨⟨t10,t13⟩,A22,H⟩:=H;try dsimp only at H
    simp only [Option.some.injEq,Prod.mk.injEq] at H;obtain ⟨rfl,rfl⟩:=H;go_wp2_with (first|((with_reducible refine gate_callee (f:=52) rfl ?_);refine gl_ (some 24) Try.func52 #[.slice A0 l0.length c0, .string a1] ?_;(with_reducible refine (r10_Find.calls kj4 _ _ l0 a1 t9 _ ?side1 ?side2 A20.out).mono ?_);(case side1=>exact zc_ (Kd.C_below HR0.out HB.out));(case side2=>exact HC0.out);rintro e w' ⟨rfl,⟨nd,rfl⟩⟩;refine ⟨_,rfl, ?_⟩;(try (rw [drewN_self wc];generalize hq_:World.drewN wc _=wc;replace BK1:=am_ (blk_at hq_ BK1.out);replace BK2:=am_ (blk_at hq_ BK2.out);replace HB:=am_ (below_at hq_ HB.out);clear hq_)))|((with_reducible refine gate_callee (f:=101) rfl ?_);refine gl_ (some 26) Try.func101 #[.int .i64 3] ?_;(with_reducible refine (r10_no.calls 3 t10 t13 _ A22.out).mono ?_);rintro e w23 ⟨v11,rfl,ho0,hb⟩;refine ⟨_,rfl, ?_⟩;have HO12:=am_ (Kd.R_lower ho0 (below_size (zl2_ HB GE1 GE2)));replace BK1:=bb_ BK1 hb;replace BK2:=bb_ BK2 hb;replace HB:=am_ (below_step (zl2_ HB GE1 GE2) hb);(try clear hb ho0);obtain ⟨Ao24,co24,eo24⟩:=Kd.R_slice HO12.out;subst eo24;have hnb25:=NB2_1.out;have hnc25:=NB1_2.out;obtain ⟨hcz26_0,hcz26_1⟩:=x2_ BK2;have hfz26_0:=blk_frozen BK2.out 0;have hfz26_1:=blk_frozen BK2.out 1))
    refine bodyPost_ret (results_cell_row rfl _ _ gb2 73 #[.slice Ao24 t10.length co24, .int .i64 t13] (0,0) _ rfl (zw_ BK2) Try.underlying73 rfl (by kernel_rfl)) rfl ?_;exact ⟨_,by first|rfl|(simp [errW_none,errW_some]<;>rfl)|(simp [*,errW_none,errW_some]<;>rfl),zy_ HO12 BK2,zl2_ HB GE1 GE2⟩
   rw [if_neg c21] at H;have c21b0:decide (0≤t9)=false:=decide_eq_false c21;clear c21;have HC27:=Aside0.mk H;clear H;go_upto_region 5 with (first|((with_reducible refine gate_callee (f:=52) rfl ?_);refine gl_ (some 24) Try.func52 #[.slice A0 l0.length c0, .string a1] ?_;(with_reducible refine (r10_Find.calls kj4 _ _ l0 a1 t9 _ ?side1 ?side2 A20.out).mono ?_);(case side1=>exact zc_ (Kd.C_below HR0.out HB.out));(case side2=>exact HC0.out);rintro e w' ⟨rfl,⟨nd,rfl⟩⟩;refine ⟨_,rfl, ?_⟩))
   (try simp only [Act.put,List.setIfInBounds_toArray,List.set_cons_zero,List.set_cons_succ]);go_cut [27] (fun v27 wc=> ∃(kq:Nat) (x27_26:Bool),v27= .bool x27_26∧Aside0 (r10_Create.j1 kq l0 a1 a2 x27_26 a3_0 a3_1 a3_2=some (r1,r2))∧Aside0 (kq≤kj4)∧Aside0 (wc.heap[gb1]?=some (.cells #[.int .i64 a3_0, .int .i64 a3_1, .int .i64 a3_2] 37 (0,0)))∧Aside0 (wc.heap[gb2]?=some (.cells #[(.slice none 0 0), .int .i64 0] 73 (0,0)))∧Aside0 (Below w.heap.size w wc))
   case first=>
    have H:=HC27.out;clear HC27;by_cases c28:a2.toList=([]:List UInt8)
    ·rw [if_pos c28] at H;have c28b0:=beq_iff_eq.mpr c28;have c28b1:=bne_eq_false_iff_eq.mpr c28;clear c28;(first|rw [c28b0]|(simp only [i64_w,i32_w];rw [c28b0])|skip);have H':=Aside0.mk H;clear H;go_wp2
     go_meet
     case rel=>exact ⟨_,(false),rf_,H',⟨by have:=HJ4.out;first|omega|exact Nat.le_refl _⟩,am_ (zb_ BK1),am_ (zb_ BK2),⟨zl2_ HB GE1 GE2⟩⟩
    rw [if_neg c28] at H;have c28b0:=beq_eq_false_iff_ne.mpr c28;have c28b1:=bne_iff_ne.mpr c28;(first|rw [c28b0]|(simp only [i64_w,i32_w];rw [c28b0])|skip);replace H:=zbd_ H;obtain ⟨t14,A29,H⟩:=H;try dsimp only at H
    have H':=Aside0.mk H;clear H;go_wp2_with (first|(go_at_call 52;(with_reducible refine (r10_Find.calls kj4 _ _ l0 a2 t14 _ ?side1 ?side2 A29.out).mono ?_);(case side1=>exact zc_ (Kd.C_below HR0.out HB.out));(case side2=>exact HC0.out);rintro e w' ⟨rfl,⟨nd,rfl⟩⟩))
    go_meet
    case rel=>exact ⟨_,(decide (t14<0)),rf_,H',⟨by have:=HJ4.out;first|omega|exact Nat.le_refl _⟩,am_ (zb_ BK1),am_ (zb_ BK2),⟨zl2_ HB GE1 GE2⟩⟩
   case rest=>
    clear HC27;obtain ⟨kq,x27_26,rfl,HA,HJ26,BK1,BK2,HB⟩:=hcut
    cases kq with
    |zero=>exact absurd HA.out (by simp [r10_Create.j1])
    |succ kj26=>
     have H:=HA.out;clear HA;simp only [r10_Create.j1] at H;by_cases c30:x27_26=true
     ·subst c30;rw [if_pos rfl] at H;replace H:=zbd_ H;obtain ⟨⟨t15,t18⟩,A31,H⟩:=H;try dsimp only at H
      simp only [Option.some.injEq,Prod.mk.injEq] at H;obtain ⟨rfl,rfl⟩:=H;go_wp2_with (first|((with_reducible refine gate_callee (f:=101) rfl ?_);refine gl_ (some 36) Try.func101 #[.int .i64 2] ?_;(with_reducible refine (r10_no.calls 2 t15 t18 _ A31.out).mono ?_);rintro e w32 ⟨v16,rfl,ho0,hb⟩;refine ⟨_,rfl, ?_⟩;have HO17:=am_ (Kd.R_lower ho0 (below_size (zl2_ HB GE1 GE2)));replace BK1:=bb_ BK1 hb;replace BK2:=bb_ BK2 hb;replace HB:=am_ (below_step (zl2_ HB GE1 GE2) hb);(try clear hb ho0);obtain ⟨Ao33,co33,eo33⟩:=Kd.R_slice HO17.out;subst eo33;have hnb34:=NB2_1.out;have hnc34:=NB1_2.out;obtain ⟨hcz35_0,hcz35_1⟩:=x2_ BK2;have hfz35_0:=blk_frozen BK2.out 0;have hfz35_1:=blk_frozen BK2.out 1))
      refine bodyPost_ret (results_cell_row rfl _ _ gb2 73 #[.slice Ao33 t15.length co33, .int .i64 t18] (0,0) _ rfl (zw_ BK2) Try.underlying73 rfl (by kernel_rfl)) rfl ?_;exact ⟨_,by first|rfl|(simp [errW_none,errW_some]<;>rfl)|(simp [*,errW_none,errW_some]<;>rfl),zy_ HO17 BK2,zl2_ HB GE1 GE2⟩
     replace c30:=Bool.eq_false_iff.mpr c30;subst c30;rw [if_neg (show¬(false=true) by decide)] at H;by_cases c36:(l0.length:Int)≥120
     ·rw [if_pos c36] at H;have c36b0:decide (120≤(l0.length:Int))=true:=decide_eq_true c36;have c36b1:decide (120≤l0.length)=true:=decide_eq_true (by omega);clear c36;replace H:=zbd_ H;obtain ⟨⟨t19,t22⟩,A37,H⟩:=H;try dsimp only at H
      simp only [Option.some.injEq,Prod.mk.injEq] at H;obtain ⟨rfl,rfl⟩:=H;go_wp2_with (first|((with_reducible refine gate_callee (f:=101) rfl ?_);refine gl_ (some 41) Try.func101 #[.int .i64 4] ?_;(with_reducible refine (r10_no.calls 4 t19 t22 _ A37.out).mono ?_);rintro e w38 ⟨v20,rfl,ho0,hb⟩;refine ⟨_,rfl, ?_⟩;have HO21:=am_ (Kd.R_lower ho0 (below_size (zl2_ HB GE1 GE2)));replace BK1:=bb_ BK1 hb;replace BK2:=bb_ BK2 hb;replace HB:=am_ (below_step (zl2_ HB GE1 GE2) hb);(try clear hb ho0);obtain ⟨Ao39,co39,eo39⟩:=Kd.R_slice HO21.out;subst eo39;have hnb40:=NB2_1.out;have hnc40:=NB1_2.out;obtain ⟨hcz41_0,hcz41_1⟩:=x2_ BK2;have hfz41_0:=blk_frozen BK2.out 0;have hfz41_1:=blk_frozen BK2.out 1))
      refine bodyPost_ret (results_cell_row rfl _ _ gb2 73 #[.slice Ao39 t19.length co39, .int .i64 t22] (0,0) _ rfl (zw_ BK2) Try.underlying73 rfl (by kernel_rfl)) rfl ?_;exact ⟨_,by first|rfl|(simp [errW_none,errW_some]<;>rfl)|(simp [*,errW_none,errW_some]<;>rfl),zy_ HO21 BK2,zl2_ HB GE1 GE2⟩
     rw [if_neg c36] at H;have c36b0:decide (120≤(l0.length:Int))=false:=decide_eq_false c36;have c36b1:decide (120≤l0.length)=false:=decide_eq_false (by omega);clear c36;have H':=Aside0.mk H;clear H;go_wp2
     go_loopg [9] kj26 (fun kq v9 w'=> ∃(x9_3:Int),v9= .int .i64 x9_3∧Aside0 (r10_Create.l0 kq l0 a1 a2 x9_3 a3_0 a3_1 a3_2=some (r1,r2))∧Aside0 (kq≤kj26)∧Aside0 (w'.heap[gb1]?=some (.cells #[.int .i64 a3_0, .int .i64 a3_1, .int .i64 a3_2] 37 (0,0)))∧Aside0 (w'.heap[gb2]?=some (.cells #[(.slice none 0 0), .int .i64 0] 73 (0,0)))∧Aside0 (Below w.heap.size w w'))
     case atStart=>exact ⟨(0),rf_,H',⟨Nat.le_refl _⟩,am_ (zb_ BK1),am_ (zb_ BK2),⟨zl2_ HB GE1 GE2⟩⟩
     case round=>
      clear H';obtain ⟨x9_3,rfl,HA,HK3,BK1,BK2,HB⟩:=hrel
      cases gk with
      |zero=>exact absurd HA.out (by simp [r10_Create.l0])
      |succ k3=>
       have H:=HA.out;clear HA;simp only [r10_Create.l0] at H;by_cases c42:x9_3<(l0.length:Int);rotate_left
       ·rw [if_neg c42] at H;have c42b0:=decide_eq_false c42;clear c42;by_cases c61:0≤x9_3;rotate_left
        ·rw [if_neg c61] at H;exact absurd H (by simp)

        rw [if_pos c61] at H;have c61b0:=eq_true c61;have c61b1:=decide_eq_true c61;clear c61;replace H:=zif_ H;obtain ⟨c62,H⟩:=H;have c62b0:=eq_true c62;have c62b1:=decide_eq_true c62;clear c62;obtain ⟨y41,hy41⟩: ∃y_:List (S79),y_=(l0.take (x9_3:Int).toNat):=⟨_,rfl⟩;(first|replace H:=zsb_ hy41 H|rw [←hy41] at H);have Ny41:=Aside0.mk hy41;clear hy41;replace H:=zbd_ H;obtain ⟨t45,A63,H⟩:=H;try dsimp only at H
        replace H:=zif_ H;obtain ⟨c64,H⟩:=H;have LMc64:=Aside0.mk c64;clear c64;obtain ⟨y48,hy48⟩: ∃y_:List (S79),y_=(t45++ [(⟨a1,a2,(⟨a3_0,a3_1,a3_2⟩:S37),(⟨0,0,0⟩:S37),(⟨0,0,0⟩:S37),1⟩:S79)]):=⟨_,rfl⟩;(first|replace H:=zsb_ hy48 H|rw [←hy48] at H);have Ny48:=Aside0.mk hy48;clear hy48;have c65b0:=eq_true (of_decide_eq_true zq_:0≤x9_3);have c66b0:=eq_true (of_decide_eq_true zq_:x9_3≤(l0.length:Int));obtain ⟨y51,hy51⟩: ∃y_:List (S79),y_=(l0.drop (x9_3:Int).toNat):=⟨_,rfl⟩;(first|replace H:=zsb_ hy51 H|rw [←hy51] at H);have Ny51:=Aside0.mk hy51;clear hy51;replace H:=zif_ H;obtain ⟨c67,H⟩:=H;have LMc67:=Aside0.mk c67;clear c67;obtain ⟨y55,hy55⟩: ∃y_:List (S79),y_=(y48++y51):=⟨_,rfl⟩;(first|replace H:=zsb_ hy55 H|rw [←hy55] at H);have Ny55:=Aside0.mk hy55;clear hy55;simp only [Option.some.injEq,Prod.mk.injEq] at H;obtain ⟨rfl,rfl⟩:=H;have q68:(x9_3:Int)≤((l0.length:Int):Int):=of_decide_eq_true zq_;obtain ⟨i068,hi068,_,hsz68,_⟩:=info_parts info79;have hroom68:l0.length≤c0:=HC0.out;have hC68:Kd.C k79 _ A0 l0.length l0:=HR0.out;have hcut68:=cut_to (P:=Try.prog) 46 79 .i64 Try.underlying46 hi068 A0 l0.length c0 x9_3 (of_decide_eq_true zq_) q68 hroom68;have hr68:=Kd.C_take (m:=(x9_3:Int).toNat) hC68 (by omega);have hy68:y41.length=(x9_3:Int).toNat:=(by rw [Ny41.out,List.length_take];omega);rw [←Ny41.out] at hr68;rw [←hy68] at hcut68;have HR44:=Aside0.mk hr68;have HC44:=am_ (show y41.length≤c0 from by omega);clear hr68 hC68 hroom68 hi068 hsz68;have KY68:=Aside0.mk hy68;clear hy68
        replace q68:=eq_true q68
        go_wp2_with (first|((with_reducible refine gate_callee (f:=119) rfl ?_);refine gl_ (some 60) Try.func119 #[.slice A0 y41.length c0] ?_;(with_reducible refine (r10_copied.calls _ _ y41 t45 _ ?side1 ?side2 A63.out).mono ?_);(case side1=>exact zc_ (Kd.C_below HR44.out HB.out));(case side2=>exact HC44.out);rintro e w69 ⟨v46,rfl,ho0,hb⟩;refine ⟨_,rfl, ?_⟩;have HO47:=am_ (Kd.R_lower ho0 (below_size (zl2_ HB GE1 GE2)));replace BK1:=bb_ BK1 hb;replace BK2:=bb_ BK2 hb;replace HB:=am_ (below_step (zl2_ HB GE1 GE2) hb);(try clear hb ho0);have hnb70:=NB1_2.out;have hnc70:=NB2_1.out;obtain ⟨hcz71_0,hcz71_1,hcz71_2⟩:=x3_ BK1;have hfz71_0:=blk_frozen BK1.out 0;have hfz71_1:=blk_frozen BK1.out 1;have hfz71_2:=blk_frozen BK1.out 2)|((with_reducible refine gate_builtin (b:= .append) (xs:=#[.tmp 61, .tmp 66]) rfl ?_);at_builtin;refine Kd.R_append k79 (w0:=w) w.heap.size rfl (.tmp 61) (.tmp 66) 46 79 (.agg #[(.string ⟨#[]⟩),(.string ⟨#[]⟩),(.int .i64 0),(.int .i64 0),(.int .i64 0),(.int .i64 0),(.int .i64 0),(.int .i64 0),(.int .i64 0),(.int .i64 0),(.int .i64 0),(.int .i64 0)]) 112 rfl Try.underlying46 info79 rfl (by decide) (by omega) v46 t45 (⟨a1,a2,(⟨a3_0,a3_1,a3_2⟩:S37),(⟨0,0,0⟩:S37),(⟨0,0,0⟩:S37),1⟩:S79) [.string a1, .string a2, .int .i64 a3_0, .int .i64 a3_1, .int .i64 a3_2, .int .i64 0, .int .i64 0, .int .i64 0, .int .i64 0, .int .i64 0, .int .i64 0, .int .i64 1] (fun _=>True) (fun _=>False) rfl rfl ?aP (fun _ hk=>hk.elim) ?aF ?aO ?aB ?aS ?aL ?_;(case aP=>exact k79_mkM _ _ _ (⟨a1,a2,(⟨a3_0,a3_1,a3_2⟩:S37),(⟨0,0,0⟩:S37),(⟨0,0,0⟩:S37),1⟩:S79));(case aB=>exact (zl2_ HB GE1 GE2));(case aF=>exact (fun _ _=>trivial));(case aO=>exact (zr_ HO47));(case aS=>exact (below_size (zl2_ HB GE1 GE2)));(case aL=>have:=LMc64.out;omega);intro v49 w72 ho hb hg hat;rw [←Ny48.out] at ho;have n0_:=am_ (blk_grown (zb_ BK1) hg (Kd.R_ne HO47.out BK1.out (by decide)));have n1_:=am_ (blk_grown (zb_ BK2) hg (Kd.R_ne HO47.out BK2.out (by decide)));have n2_:=am_ (hb);have n3_:=am_ (ho);clear BK1;clear BK2;clear HB;clear HO47;have BK1:=n0_;have BK2:=n1_;have HB:=n2_;have HO50:=n3_;clear n0_ n1_ n2_ n3_;clear ho hb hg hat;have q73:(x9_3:Int)≤((l0.length:Int):Int):=of_decide_eq_true zq_;obtain ⟨i073,hi073,_,hsz73,_⟩:=info_parts info79;have hroom73:l0.length≤c0:=HC0.out;have hC73:Kd.C k79 _ A0 l0.length l0:=HR0.out;have q073:(0:Int)≤(x9_3:Int):=of_decide_eq_true zq_;have hcut73:=cut_from (P:=Try.prog) 46 79 .i64 Try.underlying46 hi073 12 hsz73 A0 l0.length c0 x9_3 q073 q73;have hr73:=Kd.C_drop (m:=(x9_3:Int).toNat) (c:=c0) hC73 (by omega) hroom73;obtain ⟨A73,hA73⟩: ∃A1,A1=(if c0=(x9_3:Int).toNat then A0 else (A0:Option Addr).map (·.add ((x9_3:Int).toNat*12))):=⟨_,rfl⟩;obtain ⟨c73,hc73⟩: ∃c1,c1=c0 - (x9_3:Int).toNat:=⟨_,rfl⟩;have hy73:y51.length=l0.length - (x9_3:Int).toNat:=(by rw [Ny51.out,List.length_drop]<;>omega);rw [show (l0).drop (x9_3:Int).toNat=y51 from Ny51.out.symm] at hr73;replace hr73:Kd.C k79 _ A73 y51.length y51:=(by rw [hA73];exact hr73);rw [←hy73,←hA73,←hc73] at hcut73;have HR54:=Aside0.mk hr73;have HC54:=am_ (show y51.length≤c73 from by rw [hy73,hc73];exact Nat.sub_le_sub_right hroom73 _);clear hr73 hC73 hroom73 hi073 hsz73 hc73;have KY73:=Aside0.mk hy73;have KA73:=Aside0.mk hA73;clear hy73 hA73;replace q73:=eq_true q73)|((with_reducible refine gate_builtin (b:= .append) (xs:=#[.tmp 68, .tmp 71]) rfl ?_);at_builtin;refine Kd.R_append_rows k79 (w0:=w) w.heap.size rfl (.tmp 68) (.tmp 71) 46 79 (.agg #[(.string ⟨#[]⟩),(.string ⟨#[]⟩),(.int .i64 0),(.int .i64 0),(.int .i64 0),(.int .i64 0),(.int .i64 0),(.int .i64 0),(.int .i64 0),(.int .i64 0),(.int .i64 0),(.int .i64 0)]) 112 rfl Try.underlying46 info79 rfl (by decide) (by omega) v49 y48 y51 _ _ _ (fun _=>True) (fun _=>False) rfl rfl ?aO ?aR (fun _ _ h=>h) (fun _ h=>h.elim) ?aF ?aB ?aS ?aL ?_;(case aR=>repeat (first|exact (Kd.C_below HR54.out HB.out)|(with_reducible refine Kd.C_alloc ?_ _)|(with_reducible refine Kd.C_drewN ?_ _)|(with_reducible refine Kd.C_drew ?_)));(case aB=>exact (zl2_ HB GE1 GE2));(case aF=>exact (fun _ _=>trivial));(case aO=>exact (zr_ HO50));(case aS=>exact (below_size (zl2_ HB GE1 GE2)));(case aL=>have:=LMc67.out;omega);intro v56 w74 ho hb hg hat;rw [←Ny55.out] at ho;have n0_:=am_ (blk_grown (zb_ BK1) hg (Kd.R_ne HO50.out BK1.out (by decide)));have n1_:=am_ (blk_grown (zb_ BK2) hg (Kd.R_ne HO50.out BK2.out (by decide)));have n2_:=am_ (hb);have n3_:=am_ (ho);clear BK1;clear BK2;clear HB;clear HO50;have BK1:=n0_;have BK2:=n1_;have HB:=n2_;have HO57:=n3_;clear n0_ n1_ n2_ n3_;clear ho hb hg hat;obtain ⟨Ao75,co75,eo75⟩:=Kd.R_slice HO57.out;subst eo75;obtain ⟨hcz76_0,hcz76_1⟩:=x2_ BK2;have hfz76_0:=blk_frozen BK2.out 0;have hfz76_1:=blk_frozen BK2.out 1))
        refine bodyPost_ret (results_cell_row rfl _ _ gb2 73 #[.slice Ao75 y55.length co75, .int .i64 0] (0,0) _ rfl (zw_ BK2) Try.underlying73 rfl (by kernel_rfl)) rfl ?_;exact ⟨_,by first|rfl|(simp [errW_none,errW_some]<;>rfl)|(simp [*,errW_none,errW_some]<;>rfl),zy_ HO57 BK2,zl2_ HB GE1 GE2⟩
       rw [if_pos c42] at H;have c42b0:=decide_eq_true c42;clear c42;replace H:=zif_ H;obtain ⟨c43,H⟩:=H;have c43b0:=decide_eq_true c43;clear c43;by_cases c44:(Op.bytesLess (((rd_T79 l0 x9_3).f0).toList) a1.toList)=true
       ·rw [if_pos c44] at H;have c44b0:(Op.bytesLess (((rd_T79 l0 x9_3).f0).toList) a1.toList)=true:=c44;clear c44;have H':=Aside0.mk H;clear H;obtain ⟨p23,q23,ad23,e23,hx23_0,hx23_1,hx23_2,hx23_3,hx23_4,hx23_5,hx23_6,hx23_7,hx23_8,hx23_9,hx23_10,hx23_11⟩:=zat_ (at_T79 HR0.out x9_3);cases e23;replace hx23_0:=zx12_ HB hx23_0 hx23_1 hx23_2 hx23_3 hx23_4 hx23_5 hx23_6 hx23_7 hx23_8 hx23_9 hx23_10 hx23_11;clear hx23_1 hx23_2 hx23_3 hx23_4 hx23_5 hx23_6 hx23_7 hx23_8 hx23_9 hx23_10 hx23_11;obtain ⟨hx23_0,hx23_1,hx23_2,hx23_3,hx23_4,hx23_5,hx23_6,hx23_7,hx23_8,hx23_9,hx23_10,hx23_11⟩:=hx23_0;go_wp2
        go_roundg k3
        case measure=>have:=HJ4.out;have:=HJ26.out;have:=HK3.out;omega
        case rel=>exact ⟨(wrap64 (x9_3+1)),rf_,H',⟨by have:=HJ4.out;have:=HJ26.out;have:=HK3.out;omega⟩,am_ (zb_ BK1),am_ (zb_ BK2),⟨zl2_ HB GE1 GE2⟩⟩
       rw [if_neg c44] at H;have c44b0:(Op.bytesLess (((rd_T79 l0 x9_3).f0).toList) a1.toList)=false:=by simpa using c44
       clear c44;have c45b0:=eq_true (of_decide_eq_true zq_:0≤x9_3);replace H:=zif_ H;obtain ⟨c46,H⟩:=H;have c46b0:=eq_true c46;have c46b1:=decide_eq_true c46;clear c46;obtain ⟨y24,hy24⟩: ∃y_:List (S79),y_=(l0.take (x9_3:Int).toNat):=⟨_,rfl⟩;(first|replace H:=zsb_ hy24 H|rw [←hy24] at H);have Ny24:=Aside0.mk hy24;clear hy24;replace H:=zbd_ H;obtain ⟨t28,A47,H⟩:=H;try dsimp only at H
       replace H:=zif_ H;obtain ⟨c48,H⟩:=H;have LMc48:=Aside0.mk c48;clear c48;obtain ⟨y31,hy31⟩: ∃y_:List (S79),y_=(t28++ [(⟨a1,a2,(⟨a3_0,a3_1,a3_2⟩:S37),(⟨0,0,0⟩:S37),(⟨0,0,0⟩:S37),1⟩:S79)]):=⟨_,rfl⟩;(first|replace H:=zsb_ hy31 H|rw [←hy31] at H);have Ny31:=Aside0.mk hy31;clear hy31;have c49b0:=eq_true (of_decide_eq_true zq_:0≤x9_3);have c50b0:=eq_true (of_decide_eq_true zq_:x9_3≤(l0.length:Int));obtain ⟨y34,hy34⟩: ∃y_:List (S79),y_=(l0.drop (x9_3:Int).toNat):=⟨_,rfl⟩;(first|replace H:=zsb_ hy34 H|rw [←hy34] at H);have Ny34:=Aside0.mk hy34;clear hy34;replace H:=zif_ H;obtain ⟨c51,H⟩:=H;have LMc51:=Aside0.mk c51;clear c51;obtain ⟨y38,hy38⟩: ∃y_:List (S79),y_=(y31++y34):=⟨_,rfl⟩;(first|replace H:=zsb_ hy38 H|rw [←hy38] at H);have Ny38:=Aside0.mk hy38;clear hy38;simp only [Option.some.injEq,Prod.mk.injEq] at H;obtain ⟨rfl,rfl⟩:=H;obtain ⟨p23,q23,ad23,e23,hx23_0,hx23_1,hx23_2,hx23_3,hx23_4,hx23_5,hx23_6,hx23_7,hx23_8,hx23_9,hx23_10,hx23_11⟩:=zat_ (at_T79 HR0.out x9_3);cases e23;replace hx23_0:=zx12_ HB hx23_0 hx23_1 hx23_2 hx23_3 hx23_4 hx23_5 hx23_6 hx23_7 hx23_8 hx23_9 hx23_10 hx23_11;clear hx23_1 hx23_2 hx23_3 hx23_4 hx23_5 hx23_6 hx23_7 hx23_8 hx23_9 hx23_10 hx23_11;obtain ⟨hx23_0,hx23_1,hx23_2,hx23_3,hx23_4,hx23_5,hx23_6,hx23_7,hx23_8,hx23_9,hx23_10,hx23_11⟩:=hx23_0;have q52:(x9_3:Int)≤((l0.length:Int):Int):=of_decide_eq_true zq_;obtain ⟨i052,hi052,_,hsz52,_⟩:=info_parts info79;have hroom52:l0.length≤c0:=HC0.out;have hC52:Kd.C k79 _ (some ad23) l0.length l0:=HR0.out
       have hcut52:=cut_to (P:=Try.prog) 46 79 .i64 Try.underlying46 hi052 (some ad23) l0.length c0 x9_3 (of_decide_eq_true zq_) q52 hroom52;have hr52:=Kd.C_take (m:=(x9_3:Int).toNat) hC52 (by omega);have hy52:y24.length=(x9_3:Int).toNat:=(by rw [Ny24.out,List.length_take];omega);rw [←Ny24.out] at hr52;rw [←hy52] at hcut52;have HR27:=Aside0.mk hr52;have HC27:=am_ (show y24.length≤c0 from by omega);clear hr52 hC52 hroom52 hi052 hsz52;have KY52:=Aside0.mk hy52;clear hy52;replace q52:=eq_true q52
       go_wp2_with (first|((with_reducible refine gate_callee (f:=119) rfl ?_);refine gl_ (some 60) Try.func119 #[.slice (some ad23) y24.length c0] ?_;(with_reducible refine (r10_copied.calls _ _ y24 t28 _ ?side1 ?side2 A47.out).mono ?_);(case side1=>exact zc_ (Kd.C_below HR27.out HB.out));(case side2=>exact HC27.out);rintro e w53 ⟨v29,rfl,ho0,hb⟩;refine ⟨_,rfl, ?_⟩;have HO30:=am_ (Kd.R_lower ho0 (below_size (zl2_ HB GE1 GE2)));replace BK1:=bb_ BK1 hb;replace BK2:=bb_ BK2 hb;replace HB:=am_ (below_step (zl2_ HB GE1 GE2) hb);(try clear hb ho0);have hnb54:=NB1_2.out;have hnc54:=NB2_1.out;obtain ⟨hcz55_0,hcz55_1,hcz55_2⟩:=x3_ BK1;have hfz55_0:=blk_frozen BK1.out 0;have hfz55_1:=blk_frozen BK1.out 1;have hfz55_2:=blk_frozen BK1.out 2)|((with_reducible refine gate_builtin (b:= .append) (xs:=#[.tmp 61, .tmp 66]) rfl ?_);at_builtin;refine Kd.R_append k79 (w0:=w) w.heap.size rfl (.tmp 61) (.tmp 66) 46 79 (.agg #[(.string ⟨#[]⟩),(.string ⟨#[]⟩),(.int .i64 0),(.int .i64 0),(.int .i64 0),(.int .i64 0),(.int .i64 0),(.int .i64 0),(.int .i64 0),(.int .i64 0),(.int .i64 0),(.int .i64 0)]) 112 rfl Try.underlying46 info79 rfl (by decide) (by omega) v29 t28 (⟨a1,a2,(⟨a3_0,a3_1,a3_2⟩:S37),(⟨0,0,0⟩:S37),(⟨0,0,0⟩:S37),1⟩:S79) [.string a1, .string a2, .int .i64 a3_0, .int .i64 a3_1, .int .i64 a3_2, .int .i64 0, .int .i64 0, .int .i64 0, .int .i64 0, .int .i64 0, .int .i64 0, .int .i64 1] (fun _=>True) (fun _=>False) rfl rfl ?aP (fun _ hk=>hk.elim) ?aF ?aO ?aB ?aS ?aL ?_;(case aP=>exact k79_mkM _ _ _ (⟨a1,a2,(⟨a3_0,a3_1,a3_2⟩:S37),(⟨0,0,0⟩:S37),(⟨0,0,0⟩:S37),1⟩:S79));(case aB=>exact (zl2_ HB GE1 GE2));(case aF=>exact (fun _ _=>trivial));(case aO=>exact (zr_ HO30));(case aS=>exact (below_size (zl2_ HB GE1 GE2)));(case aL=>have:=LMc48.out;omega);intro v32 w56 ho hb hg hat;rw [←Ny31.out] at ho;have n0_:=am_ (blk_grown (zb_ BK1) hg (Kd.R_ne HO30.out BK1.out (by decide)));have n1_:=am_ (blk_grown (zb_ BK2) hg (Kd.R_ne HO30.out BK2.out (by decide)));have n2_:=am_ (hb);have n3_:=am_ (ho);clear BK1;clear BK2;clear HB;clear HO30;have BK1:=n0_;have BK2:=n1_;have HB:=n2_;have HO33:=n3_;clear n0_ n1_ n2_ n3_;clear ho hb hg hat;have q57:(x9_3:Int)≤((l0.length:Int):Int):=of_decide_eq_true zq_;obtain ⟨i057,hi057,_,hsz57,_⟩:=info_parts info79;have hroom57:l0.length≤c0:=HC0.out;have hC57:Kd.C k79 _ (some ad23) l0.length l0:=HR0.out;have q057:(0:Int)≤(x9_3:Int):=of_decide_eq_true zq_;have hcut57:=cut_from (P:=Try.prog) 46 79 .i64 Try.underlying46 hi057 12 hsz57 (some ad23) l0.length c0 x9_3 q057 q57;have hr57:=Kd.C_drop (m:=(x9_3:Int).toNat) (c:=c0) hC57 (by omega) hroom57;obtain ⟨A57,hA57⟩: ∃A1,A1=(if c0=(x9_3:Int).toNat then (some ad23) else ((some ad23):Option Addr).map (·.add ((x9_3:Int).toNat*12))):=⟨_,rfl⟩;obtain ⟨c57,hc57⟩: ∃c1,c1=c0 - (x9_3:Int).toNat:=⟨_,rfl⟩;have hy57:y34.length=l0.length - (x9_3:Int).toNat:=(by rw [Ny34.out,List.length_drop]<;>omega);rw [show (l0).drop (x9_3:Int).toNat=y34 from Ny34.out.symm] at hr57;replace hr57:Kd.C k79 _ A57 y34.length y34:=(by rw [hA57];exact hr57);rw [←hy57,←hA57,←hc57] at hcut57;have HR37:=Aside0.mk hr57;have HC37:=am_ (show y34.length≤c57 from by rw [hy57,hc57];exact Nat.sub_le_sub_right hroom57 _);clear hr57 hC57 hroom57 hi057 hsz57 hc57;have KY57:=Aside0.mk hy57;have KA57:=Aside0.mk hA57;clear hy57 hA57;replace q57:=eq_true q57)|((with_reducible refine gate_builtin (b:= .append) (xs:=#[.tmp 68, .tmp 71]) rfl ?_);at_builtin;refine Kd.R_append_rows k79 (w0:=w) w.heap.size rfl (.tmp 68) (.tmp 71) 46 79 (.agg #[(.string ⟨#[]⟩),(.string ⟨#[]⟩),(.int .i64 0),(.int .i64 0),(.int .i64 0),(.int .i64 0),(.int .i64 0),(.int .i64 0),(.int .i64 0),(.int .i64 0),(.int .i64 0),(.int .i64 0)]) 112 rfl Try.underlying46 info79 rfl (by decide) (by omega) v32 y31 y34 _ _ _ (fun _=>True) (fun _=>False) rfl rfl ?aO ?aR (fun _ _ h=>h) (fun _ h=>h.elim) ?aF ?aB ?aS ?aL ?_;(case aR=>repeat (first|exact (Kd.C_below HR37.out HB.out)|(with_reducible refine Kd.C_alloc ?_ _)|(with_reducible refine Kd.C_drewN ?_ _)|(with_reducible refine Kd.C_drew ?_)));(case aB=>exact (zl2_ HB GE1 GE2));(case aF=>exact (fun _ _=>trivial));(case aO=>exact (zr_ HO33));(case aS=>exact (below_size (zl2_ HB GE1 GE2)));(case aL=>have:=LMc51.out;omega);intro v39 w58 ho hb hg hat;rw [←Ny38.out] at ho;have n0_:=am_ (blk_grown (zb_ BK1) hg (Kd.R_ne HO33.out BK1.out (by decide)));have n1_:=am_ (blk_grown (zb_ BK2) hg (Kd.R_ne HO33.out BK2.out (by decide)));have n2_:=am_ (hb);have n3_:=am_ (ho);clear BK1;clear BK2;clear HB;clear HO33;have BK1:=n0_;have BK2:=n1_;have HB:=n2_;have HO40:=n3_;clear n0_ n1_ n2_ n3_;clear ho hb hg hat;obtain ⟨Ao59,co59,eo59⟩:=Kd.R_slice HO40.out;subst eo59;obtain ⟨hcz60_0,hcz60_1⟩:=x2_ BK2;have hfz60_0:=blk_frozen BK2.out 0;have hfz60_1:=blk_frozen BK2.out 1))
       refine bodyPost_ret (results_cell_row rfl _ _ gb2 73 #[.slice Ao59 y38.length co59, .int .i64 0] (0,0) _ rfl (zw_ BK2) Try.underlying73 rfl (by kernel_rfl)) rfl ?_;exact ⟨_,by first|rfl|(simp [errW_none,errW_some]<;>rfl)|(simp [*,errW_none,errW_some]<;>rfl),zy_ HO40 BK2,zl2_ HB GE1 GE2⟩
mutual
def law12_Make.l0:Nat→List Int→List (S79)→Int→Option ((List (S79)))
 |0,_,_,_=>none
 |k+1,x0,x3,x4=>if (wrap64 (x4+2))<(x0.length:Int) then (law12_Make.j1 k x0 x3 x4 (decide ((x3.length:Int)<24))) else (law12_Make.j1 k x0 x3 x4 false)
def law12_Make.j1:Nat→List Int→List (S79)→Int→Bool→Option ((List (S79)))
 |0,_,_,_,_=>none
 |k+1,x0,x3,x4,x21=>if x21=true then (if 0≤x4 then (if x4<(x0.length:Int) then (if (x3.length:Int)>0 then (law12_Make.j2 k x0 x3 x4 (wrap64 (rd x0 x4)) (⟨#[]⟩:ByteArray) (decide ((Int.tmod (wrap64 (rd x0 x4)) 3)>0))) else (law12_Make.j2 k x0 x3 x4 (wrap64 (rd x0 x4)) (⟨#[]⟩:ByteArray) false)) else (none)) else (none)) else (some x3)
def law12_Make.j2:Nat→List Int→List (S79)→Int→Int→ByteArray→Bool→Option ((List (S79)))
 |0,_,_,_,_,_,_=>none
 |k+1,x0,x3,x4,x5,x6,x36=>if x36=true then (if (x3.length:Int)=0 then (none) else (if 0≤(Int.tmod (wrap64 (Int.tdiv x5 3)) (x3.length:Int)) then (if (Int.tmod (wrap64 (Int.tdiv x5 3)) (x3.length:Int))<(x3.length:Int) then (law12_Make.j3 k x0 x3 x4 ((rd_T79 x3 (Int.tmod (wrap64 (Int.tdiv x5 3)) (x3.length:Int))).f0)) else (none)) else (none))) else (law12_Make.j3 k x0 x3 x4 x6)
def law12_Make.j3:Nat→List Int→List (S79)→Int→ByteArray→Option ((List (S79)))
 |0,_,_,_,_=>none
 |k+1,x0,x3,x4,x6=>if 0≤(wrap64 (x4+1)) then (if (wrap64 (x4+1))<(x0.length:Int) then ((r10_Create.f k x3 (strOfNums (([(wrap64 (97+(Int.tmod (wrap64 ((x3.length:Int)*5)) 24))) % 256]:List Int))) x6 (wrap64 (20+(wrap64 (rd x0 (wrap64 (x4+1)))))) (wrap64 (20+(wrap64 (rd x0 (wrap64 (x4+1)))))) (wrap64 (20+(wrap64 (rd x0 (wrap64 (x4+1))))))).bind fun bt7=>(if bt7.2=0 then (if 0≤(wrap64 (x4+2)) then (if (wrap64 (x4+2))<(x0.length:Int) then (if (bt7.1.length:Int)=0 then (none) else (if 0≤(Int.tmod (wrap64 (Int.tdiv (wrap64 (rd x0 (wrap64 (x4+2)))) 16)) (bt7.1.length:Int)) then (if (Int.tmod (wrap64 (Int.tdiv (wrap64 (rd x0 (wrap64 (x4+2)))) 16)) (bt7.1.length:Int))<(bt7.1.length:Int) then ((r10_Admit.f k bt7.1 ((rd_T79 bt7.1 (Int.tmod (wrap64 (Int.tdiv (wrap64 (rd x0 (wrap64 (x4+2)))) 16)) (bt7.1.length:Int))).f0) (Int.tmod (wrap64 (rd x0 (wrap64 (x4+2)))) 16) (wrap64 (Int.tdiv (Int.tmod (wrap64 (rd x0 (wrap64 (x4+2)))) 16) 2)) (Int.tmod (Int.tmod (wrap64 (rd x0 (wrap64 (x4+2)))) 16) 3)).bind fun bt15=>(if bt15.2=0 then (law12_Make.l0 k x0 bt15.1 (wrap64 (x4+3))) else (law12_Make.l0 k x0 bt7.1 (wrap64 (x4+3))))) else (none)) else (none))) else (none)) else (none)) else (law12_Make.l0 k x0 x3 (wrap64 (x4+3))))) else (none)) else (none)
end
def law12_Make.f (k:Nat) (l0:List Int):Option ((List (S79))):=law12_Make.l0 k l0 ([]:List (S79)) 0
theorem law12_Make.mono_l: ∀k,(∀y0 y1 y2,LeO (law12_Make.l0 k y0 y1 y2) (law12_Make.l0 (k+1) y0 y1 y2))∧(∀y0 y1 y2 y3,LeO (law12_Make.j1 k y0 y1 y2 y3) (law12_Make.j1 (k+1) y0 y1 y2 y3))∧(∀y0 y1 y2 y3 y4 y5,LeO (law12_Make.j2 k y0 y1 y2 y3 y4 y5) (law12_Make.j2 (k+1) y0 y1 y2 y3 y4 y5))∧(∀y0 y1 y2 y3,LeO (law12_Make.j3 k y0 y1 y2 y3) (law12_Make.j3 (k+1) y0 y1 y2 y3))
 |0=>⟨fun _ _ _ r h=>by simp [law12_Make.l0] at h,fun _ _ _ _ r h=>by simp [law12_Make.j1] at h,fun _ _ _ _ _ _ r h=>by simp [law12_Make.j2] at h,fun _ _ _ _ r h=>by simp [law12_Make.j3] at h⟩
 |k+1=>by
  obtain ⟨ih0,ih1,ih2,ih3⟩:=law12_Make.mono_l k;refine ⟨?_, ?_, ?_, ?_⟩<;>(intros;first|unfold law12_Make.l0|unfold law12_Make.j1|unfold law12_Make.j2|unfold law12_Make.j3)<;>repeat' with_reducible first|apply ih0|apply ih1|apply ih2|apply ih3|apply r10_Admit.mono|apply r10_Create.mono|apply LeO.refl|apply LeO.none|apply LeO.ite|refine LeO.bind ?_ fun _=> ?_
theorem law12_Make.mono: ∀a0 k,LeO (law12_Make.f k a0) (law12_Make.f (k+1) a0):=by
 intro a0 k;obtain ⟨ih0,ih1,ih2,ih3⟩:=law12_Make.mono_l k;unfold law12_Make.f
 repeat' with_reducible first|apply ih0|apply ih1|apply ih2|apply ih3|apply r10_Admit.mono|apply r10_Create.mono|apply LeO.refl|apply LeO.none|apply LeO.ite|refine LeO.bind ?_ fun _=> ?_
set_option maxHeartbeats 8000000 in
set_option maxRecDepth 100000 in
theorem law12_Make.calls (k:Nat) (A0:Option Addr) (c0:Nat) (l0:List Int) (r:List (S79)) (w:World) (hr0:Kd.C (Kd.int .u8) w A0 l0.length l0) (hc0:l0.length≤c0) (h:law12_Make.f k l0=some r):
  Calls Try.prog 38 #[.slice A0 l0.length c0] w fun e w'=> ∃v0_:Value,e= .returned (v0_)∧Kd.R k79 79 w' w.heap.size (fun _=>True) v0_ r∧Below w.heap.size w w':=by
 have hu37:=Try.underlying37;have hu73:=Try.underlying73;have HR0:=Aside0.mk hr0;have HC0:=Aside0.mk hc0;clear hr0 hc0;have HB:=am_ (Below.refl w.heap.size w);have H:(law12_Make.l0 k l0 ([]:List (S79)) 0)=some r:=h;clear h;have H':=Aside0.mk H;clear H;go_enter Try.func38,Try.ntmps38;go_wp2
 go_loopg [3,4] k (fun kq v3 v4 w'=> ∃(x3_1:List (S79)) (x4_1:Int),v4= .int .i64 x4_1∧Aside0 (law12_Make.l0 kq l0 x3_1 x4_1=some r)∧Aside0 (kq≤k)∧Aside0 (Kd.R k79 79 w' w.heap.size (fun _=>True) v3 x3_1)∧Aside0 (Below w.heap.size w w'))
 case atStart=>exact ⟨(([]:List (S79))),(0),rf_,H',⟨Nat.le_refl _⟩,⟨by first|exact Kd.R_nil _ _ _ _ _|exact Kd.N_nil _ _ _ _ _|exact Kd.V_nil _ _ _ _ _|exact Kd.Q_nil _ _ _ _ _|exact Kd.S_nil _ _ _ _ _⟩,⟨zl0_ HB⟩⟩
 case round=>
  clear H';obtain ⟨x3_1,x4_1,rfl,HA,HK1,HO_3,HB⟩:=hrel
  cases gk with
  |zero=>exact absurd HA.out (by simp [law12_Make.l0])
  |succ k1=>
   have H:=HA.out;clear HA;simp only [law12_Make.l0] at H;have HC2:=Aside0.mk H;clear H;go_upto_region 3 with (fail)
   go_cut [21] (fun v21 wc=> ∃(kq:Nat) (x21_1:Bool),v21= .bool x21_1∧Aside0 (law12_Make.j1 kq l0 x3_1 x4_1 x21_1=some r)∧Aside0 (kq≤k1)∧Aside0 (Kd.R k79 79 wc w.heap.size (fun _=>True) u3 x3_1)∧Aside0 (Below w.heap.size w wc))
   case first=>
    have H:=HC2.out;clear HC2;by_cases c3:(wrap64 (x4_1+2))<(l0.length:Int);rotate_left
    ·rw [if_neg c3] at H;have c3b0:=decide_eq_false c3;clear c3;(first|rw [c3b0]|(simp only [i64_w,i32_w];rw [c3b0])|skip);have H':=Aside0.mk H;clear H;go_wp2
     go_meet
     case rel=>exact ⟨_,(false),rf_,H',⟨by have:=HK1.out;first|omega|exact Nat.le_refl _⟩,am_ (zr_ HO_3),⟨zl0_ HB⟩⟩
    rw [if_pos c3] at H;have c3b0:=decide_eq_true c3;clear c3;(first|rw [c3b0]|(simp only [i64_w,i32_w];rw [c3b0])|skip);have H':=Aside0.mk H;clear H;obtain ⟨Ao4,co4,eo4⟩:=Kd.R_slice HO_3.out;subst eo4;go_wp2
    go_meet
    case rel=>exact ⟨_,(decide ((x3_1.length:Int)<24)),rf_,H',⟨by have:=HK1.out;first|omega|exact Nat.le_refl _⟩,am_ (zr_ HO_3),⟨zl0_ HB⟩⟩
   case rest=>
    clear HC2;obtain ⟨kq,x21_1,rfl,HA,HJ1,HO_3,HB⟩:=hcut
    cases kq with
    |zero=>exact absurd HA.out (by simp [law12_Make.j1])
    |succ kj1=>
     have H:=HA.out;clear HA;simp only [law12_Make.j1] at H;by_cases c5:x21_1=true;rotate_left
     ·replace c5:=Bool.eq_false_iff.mpr c5;subst c5;rw [if_neg (show¬(false=true) by decide)] at H;obtain rfl:=Option.some.inj H;go_wp2
      go_ret
      exact ⟨_,by first|rfl|(simp [errW_none,errW_some]<;>rfl)|(simp [*,errW_none,errW_some]<;>rfl),zr_ HO_3,zl0_ HB⟩

     subst c5;rw [if_pos rfl] at H;replace H:=zif_ H;obtain ⟨c6,H⟩:=H;have c6b0:=decide_eq_true c6;clear c6;replace H:=zif_ H;obtain ⟨c7,H⟩:=H;have c7b0:=decide_eq_true c7;clear c7;have HC8:=Aside0.mk H;clear H;obtain ⟨p1,q1,ad1,e1,hx1_0⟩:=zat_ (Kd.at_int HR0.out x4_1);cases e1;replace hx1_0:=zx_ HB hx1_0;go_upto_region 7 with (fail)
     go_cut [36] (fun v36 wc=> ∃(kq:Nat) (x36_7:Bool),v36= .bool x36_7∧Aside0 (law12_Make.j2 kq l0 x3_1 x4_1 (wrap64 (rd l0 x4_1)) (⟨#[]⟩:ByteArray) x36_7=some r)∧Aside0 (kq≤kj1)∧Aside0 (Kd.R k79 79 wc w.heap.size (fun _=>True) u3 x3_1)∧Aside0 (Below w.heap.size w wc))
     case first=>
      have H:=HC8.out;clear HC8;by_cases c9:(x3_1.length:Int)>0
      ·rw [if_pos c9] at H;have c9b0:decide (0<(x3_1.length:Int))=true:=decide_eq_true c9;have c9b1:decide (0<x3_1.length)=true:=decide_eq_true (by omega);clear c9;(first|rw [c9b0]|(simp only [i64_w,i32_w];rw [c9b0])|skip);have H':=Aside0.mk H;clear H;obtain ⟨Ao10,co10,eo10⟩:=Kd.R_slice HO_3.out;subst eo10;go_wp2
       go_meet
       case rel=>exact ⟨_,(decide ((Int.tmod (wrap64 (rd l0 x4_1)) 3)>0)),rf_,H',⟨by have:=HK1.out;have:=HJ1.out;first|omega|exact Nat.le_refl _⟩,am_ (zr_ HO_3),⟨zl0_ HB⟩⟩
      rw [if_neg c9] at H;have c9b0:decide (0<(x3_1.length:Int))=false:=decide_eq_false c9;have c9b1:decide (0<x3_1.length)=false:=decide_eq_false (by omega);clear c9;(first|rw [c9b0]|(simp only [i64_w,i32_w];rw [c9b0])|skip);have H':=Aside0.mk H;clear H;obtain ⟨Ao11,co11,eo11⟩:=Kd.R_slice HO_3.out;subst eo11;go_wp2
      go_meet
      case rel=>exact ⟨_,(false),rf_,H',⟨by have:=HK1.out;have:=HJ1.out;first|omega|exact Nat.le_refl _⟩,am_ (zr_ HO_3),⟨zl0_ HB⟩⟩
     case rest=>
      clear HC8;obtain ⟨kq,x36_7,rfl,HA,HJ7,HO_3,HB⟩:=hcut
      cases kq with
      |zero=>exact absurd HA.out (by simp [law12_Make.j2])
      |succ kj7=>
       have H:=HA.out;clear HA;simp only [law12_Make.j2] at H;have HC12:=Aside0.mk H;clear H;go_upto_if 36 with (fail)
       go_cut [6] (fun v6 wc=> ∃(kq:Nat) (x6_11:ByteArray),v6= .string x6_11∧Aside0 (law12_Make.j3 kq l0 x3_1 x4_1 x6_11=some r)∧Aside0 (kq≤kj7)∧Aside0 (Kd.R k79 79 wc w.heap.size (fun _=>True) u3 x3_1)∧Aside0 (Below w.heap.size w wc))
       case first=>
        have H:=HC12.out;clear HC12;by_cases c13:x36_7=true;rotate_left
        ·replace c13:=Bool.eq_false_iff.mpr c13;subst c13;rw [if_neg (show¬(false=true) by decide)] at H;have H':=Aside0.mk H;clear H;go_wp2
         go_meet
         case rel=>exact ⟨_,((⟨#[]⟩:ByteArray)),rf_,H',⟨by have:=HK1.out;have:=HJ1.out;have:=HJ7.out;first|omega|exact Nat.le_refl _⟩,am_ (zr_ HO_3),⟨zl0_ HB⟩⟩
        subst c13;rw [if_pos rfl] at H;by_cases c14:(x3_1.length:Int)=0
        ·rw [if_pos c14] at H;exact absurd H (by simp)
        rw [if_neg c14] at H;have c14b0:=beq_eq_false_iff_ne.mpr c14;have c14b1:=bne_iff_ne.mpr c14;have c14b2: ¬(x3_1=[]):=fun h_=>c14 (by rw [h_];rfl)
        (first|rw [c14b0]|(simp only [i64_w,i32_w];rw [c14b0])|skip);obtain ⟨ji15,hji15⟩: ∃j_:Int,(Int.tmod (wrap64 (Int.tdiv (wrap64 (rd l0 x4_1)) 3)) (x3_1.length:Int))=j_:=⟨_,rfl⟩;replace H:(if 0≤(ji15) then (if (ji15)<(x3_1.length:Int) then (law12_Make.j3 kj7 l0 x3_1 x4_1 ((rd_T79 x3_1 (ji15)).f0)) else (none)) else (none))=some r:=by first|(rw [hji15] at H;exact H)|(simp only [hji15] at H ⊢;exact H)
        replace H:=zif_ H;obtain ⟨c16,H⟩:=H;have c16b0:=decide_eq_true c16;clear c16;replace H:=zif_ H;obtain ⟨c17,H⟩:=H;have c17b0:=decide_eq_true c17;clear c17;have H':=Aside0.mk H;clear H;obtain ⟨Ao18,co18,eo18⟩:=Kd.R_slice HO_3.out;subst eo18;obtain ⟨p2,q2,ad2,e2,hx2_0,hx2_1,hx2_2,hx2_3,hx2_4,hx2_5,hx2_6,hx2_7,hx2_8,hx2_9,hx2_10,hx2_11⟩:=zat_ (at_T79 (Kd.R_reads' HO_3.out).2.2 (ji15));cases e2;go_wp2
        go_meet
        case rel=>exact ⟨_,((rd_T79 x3_1 (ji15)).f0),(by first|rfl|(simp;done)|(simp only [←hji15]<;>(first|rfl|simp))|(simp [*];done)),H',⟨by have:=HK1.out;have:=HJ1.out;have:=HJ7.out;first|omega|exact Nat.le_refl _⟩,am_ (zr_ HO_3),⟨zl0_ HB⟩⟩
       case rest=>
        clear HC12;obtain ⟨kq,x6_11,rfl,HA,HJ11,HO_3,HB⟩:=hcut
        cases kq with
        |zero=>exact absurd HA.out (by simp [law12_Make.j3])
        |succ kj11=>
         have H:=HA.out;clear HA;simp only [law12_Make.j3] at H;obtain ⟨ji19,hji19⟩: ∃j_:Int,(wrap64 (x4_1+1))=j_:=⟨_,rfl⟩;replace H:(if 0≤(ji19) then (if (ji19)<(l0.length:Int) then ((r10_Create.f kj11 x3_1 (strOfNums (([(wrap64 (97+(Int.tmod (wrap64 ((x3_1.length:Int)*5)) 24))) % 256]:List Int))) x6_11 (wrap64 (20+(wrap64 (rd l0 (ji19))))) (wrap64 (20+(wrap64 (rd l0 (ji19))))) (wrap64 (20+(wrap64 (rd l0 (ji19)))))).bind fun bt7=>(if bt7.2=0 then (if 0≤(wrap64 (x4_1+2)) then (if (wrap64 (x4_1+2))<(l0.length:Int) then (if (bt7.1.length:Int)=0 then (none) else (if 0≤(Int.tmod (wrap64 (Int.tdiv (wrap64 (rd l0 (wrap64 (x4_1+2)))) 16)) (bt7.1.length:Int)) then (if (Int.tmod (wrap64 (Int.tdiv (wrap64 (rd l0 (wrap64 (x4_1+2)))) 16)) (bt7.1.length:Int))<(bt7.1.length:Int) then ((r10_Admit.f kj11 bt7.1 ((rd_T79 bt7.1 (Int.tmod (wrap64 (Int.tdiv (wrap64 (rd l0 (wrap64 (x4_1+2)))) 16)) (bt7.1.length:Int))).f0) (Int.tmod (wrap64 (rd l0 (wrap64 (x4_1+2)))) 16) (wrap64 (Int.tdiv (Int.tmod (wrap64 (rd l0 (wrap64 (x4_1+2)))) 16) 2)) (Int.tmod (Int.tmod (wrap64 (rd l0 (wrap64 (x4_1+2)))) 16) 3)).bind fun bt15=>(if bt15.2=0 then (law12_Make.l0 kj11 l0 bt15.1 (wrap64 (x4_1+3))) else (law12_Make.l0 kj11 l0 bt7.1 (wrap64 (x4_1+3))))) else (none)) else (none))) else (none)) else (none)) else (law12_Make.l0 kj11 l0 x3_1 (wrap64 (x4_1+3))))) else (none)) else (none))=some r:=by first|(rw [hji19] at H;exact H)|(simp only [hji19] at H ⊢;exact H)
         have hji19w:(IntKind.i64.wrap (x4_1+1))=ji19:=(i64_w _).trans hji19;replace H:=zif_ H;obtain ⟨c20,H⟩:=H;have c20b0:=decide_eq_true c20;clear c20;replace H:=zif_ H;obtain ⟨c21,H⟩:=H;have c21b0:=decide_eq_true c21;clear c21;obtain ⟨y4,hy4⟩: ∃y_:List Int,y_=(([(wrap64 (97+(Int.tmod (wrap64 ((x3_1.length:Int)*5)) 24))) % 256]:List Int)):=⟨_,rfl⟩;(first|replace H:=zsb_ hy4 H|rw [←hy4] at H);have Ny4:=Aside0.mk hy4;clear hy4;replace H:=zbd_ H;obtain ⟨⟨t7,t10⟩,A22,H⟩:=H;try dsimp only at H
         by_cases c23:t10=0;rotate_left
         ·rw [if_neg c23] at H;have c23b0:=beq_eq_false_iff_ne.mpr c23;have c23b1:=bne_iff_ne.mpr c23;have H':=Aside0.mk H;clear H;obtain ⟨p3,q3,ad3,e3,hx3_0⟩:=zat_ (Kd.at_int HR0.out (ji19));obtain rfl:ad1=ad3:=(by injection e3);replace hx3_0:=zx_ HB hx3_0;obtain ⟨Ao59,co59,eo59⟩:=Kd.R_slice HO_3.out;subst eo59
          go_wp2_with (first|((with_reducible refine gate_dst (N:=60) rfl ?_);(try (refine gate_guard (by rfl) ?_;dsimp only));refine Kd.R_lit (Kd.int .u8) _ 5 ?hg (N:=60) ?hd (xs:=([(wrap64 (97+(Int.tmod (wrap64 ((x3_1.length:Int)*5)) 24))) % 256]:List Int)) (inner:=[.int .u8 ((wrap64 (97+(Int.tmod (wrap64 ((x3_1.length:Int)*5)) 24))) % 256)]) (ok:=fun _=>True) (okp:=fun _=>True) ?hr ?hp (fun _ hk=>hk) trivial (Below.refl _ _) (Nat.le_refl _) (by simp) ?_;(case hd=>rfl);(case hg=>rfl);(case hr=>first|(go_simp;done)|(go_simp;rfl));(case hp=>exact (Reps.one (show Kd.M (Kd.int .u8) _ _ _ ((wrap64 (97+(Int.tmod (wrap64 ((x3_1.length:Int)*5)) 24))) % 256) [.int .u8 ((wrap64 (97+(Int.tmod (wrap64 ((x3_1.length:Int)*5)) 24))) % 256)] from rfl) (Reps.none _ _)));intro v5 w60 ho61 hb hg_ hnew_;clear hg_ hnew_;(first|rw [←Ny4.out] at ho61|(simp only [Int.reduceToNat] at ho61;rw [←Ny4.out] at ho61));replace HO_3:=ob_ HO_3 hb;have HO6:=am_ (Kd.R_lower ho61 (below_size (zl0_ HB)));replace HB:=am_ (below_step (zl0_ HB) hb);clear hb ho61;have hcv62:=own_string (P:=Try.prog) Try.underlying33 Try.underlying5 Try.underlying9 (Kd.own_of_R HO6.out))|((with_reducible refine gate_callee (f:=83) rfl ?_);refine goesL_ (some 67) rfl rfl Try.func83 (by kernel_rfl) rfl #[.slice Ao59 x3_1.length co59, .string (strOfNums y4), .string x6_11, .agg #[.int .i64 (wrap64 (20+(wrap64 (rd l0 (ji19))))), .int .i64 (wrap64 (20+(wrap64 (rd l0 (ji19))))), .int .i64 (wrap64 (20+(wrap64 (rd l0 (ji19)))))]] rfl (by (try simp only [List.map_toArray,List.map_cons,List.map_nil]);first|done|(simp only [hji19];rfl)|rfl|(simp only [List.length_drop,List.length_take];rfl)) ?_;(with_reducible refine (r10_Create.calls kj11 _ _ x3_1 (strOfNums y4) x6_11 (wrap64 (20+(wrap64 (rd l0 (ji19))))) (wrap64 (20+(wrap64 (rd l0 (ji19))))) (wrap64 (20+(wrap64 (rd l0 (ji19))))) t7 t10 _ ?side1 ?side2 A22.out).mono ?_);(case side1=>exact zc_ (Kd.R_reads' HO_3.out).2.2);(case side2=>exact (Kd.R_reads' HO_3.out).2.1);rintro e w63 ⟨v8,rfl,ho0,hb⟩;refine ⟨_,rfl, ?_⟩;replace HO6:=ob_ HO6 hb;have HO9:=am_ (Kd.R_lower (Kd.R_new' ho0 (Kd.R_lt (zr_ HO_3))) (below_size (zl0_ HB)));replace HO_3:=am_ (Kd.R_elder' (zr_ HO_3) (Kd.R_base ho0) hb);replace HB:=am_ (below_step (zl0_ HB) hb);(try clear hb ho0))|((with_reducible refine gate_dst (N:=8) rfl ?_);(try (refine gate_guard (by rfl) ?_;dsimp only));refine bx_ (N:=8) (cs:=#[.slice none 0 0, .int .i64 0]) (t:=73) ?_;intro gb11 hg w64 hbox hb;replace HO_3:=ob_ HO_3 hb;replace HO6:=ob_ HO6 hb;replace HO9:=ob_ HO9 hb;have BK11:=am_ (hbox);have GW11:=am_ ((zg0_ HB hg:w.heap.size≤gb11));have GE11:=am_ ((zg0_ HB hg:w.heap.size≤gb11));replace HB:=am_ (below_step (zl0_ HB) hb);clear hb hbox hg;obtain ⟨Ao65,co65,eo65⟩:=Kd.R_slice HO9.out;subst eo65;obtain ⟨hcz66_0,hcz66_1⟩:=x2_ BK11;have hfz66_0:=blk_frozen BK11.out 0;have hfz66_1:=blk_frozen BK11.out 1))
          go_roundg kj11
          case measure=>have:=HK1.out;have:=HJ1.out;have:=HJ7.out;have:=HJ11.out;omega
          case rel=>exact ⟨(x3_1),(wrap64 (x4_1+3)),rf_,H',⟨by have:=HK1.out;have:=HJ1.out;have:=HJ7.out;have:=HJ11.out;omega⟩,⟨zy_ HO_3 BK11⟩,⟨zl1_ HB GE11⟩⟩
         rw [if_pos c23] at H;have c23b0:=beq_iff_eq.mpr c23;have c23b1:=bne_eq_false_iff_eq.mpr c23;clear c23;obtain ⟨ji24,hji24⟩: ∃j_:Int,(wrap64 (x4_1+2))=j_:=⟨_,rfl⟩;replace H:(if 0≤(ji24) then (if (ji24)<(l0.length:Int) then (if (t7.length:Int)=0 then (none) else (if 0≤(Int.tmod (wrap64 (Int.tdiv (wrap64 (rd l0 (ji24))) 16)) (t7.length:Int)) then (if (Int.tmod (wrap64 (Int.tdiv (wrap64 (rd l0 (ji24))) 16)) (t7.length:Int))<(t7.length:Int) then ((r10_Admit.f kj11 t7 ((rd_T79 t7 (Int.tmod (wrap64 (Int.tdiv (wrap64 (rd l0 (ji24))) 16)) (t7.length:Int))).f0) (Int.tmod (wrap64 (rd l0 (ji24))) 16) (wrap64 (Int.tdiv (Int.tmod (wrap64 (rd l0 (ji24))) 16) 2)) (Int.tmod (Int.tmod (wrap64 (rd l0 (ji24))) 16) 3)).bind fun bt15=>(if bt15.2=0 then (law12_Make.l0 kj11 l0 bt15.1 (wrap64 (x4_1+3))) else (law12_Make.l0 kj11 l0 t7 (wrap64 (x4_1+3))))) else (none)) else (none))) else (none)) else (none))=some r:=by first|(rw [hji24] at H;exact H)|(simp only [hji24] at H ⊢;exact H)
         (try rw [hji24] at A22);have hji24w:(IntKind.i64.wrap (x4_1+2))=ji24:=(i64_w _).trans hji24;replace H:=zif_ H;obtain ⟨c25,H⟩:=H;have c25b0:=decide_eq_true c25;clear c25;replace H:=zif_ H;obtain ⟨c26,H⟩:=H;have c26b0:=decide_eq_true c26;clear c26;by_cases c27:(t7.length:Int)=0
         ·rw [if_pos c27] at H;exact absurd H (by simp)
         rw [if_neg c27] at H;have c27b0:=beq_eq_false_iff_ne.mpr c27;have c27b1:=bne_iff_ne.mpr c27;have c27b2: ¬(t7=[]):=fun h_=>c27 (by rw [h_];rfl)
         obtain ⟨ji28,hji28⟩: ∃j_:Int,(Int.tmod (wrap64 (Int.tdiv (wrap64 (rd l0 (ji24))) 16)) (t7.length:Int))=j_:=⟨_,rfl⟩;replace H:(if 0≤(ji28) then (if (ji28)<(t7.length:Int) then ((r10_Admit.f kj11 t7 ((rd_T79 t7 (ji28)).f0) (Int.tmod (wrap64 (rd l0 (ji24))) 16) (wrap64 (Int.tdiv (Int.tmod (wrap64 (rd l0 (ji24))) 16) 2)) (Int.tmod (Int.tmod (wrap64 (rd l0 (ji24))) 16) 3)).bind fun bt15=>(if bt15.2=0 then (law12_Make.l0 kj11 l0 bt15.1 (wrap64 (x4_1+3))) else (law12_Make.l0 kj11 l0 t7 (wrap64 (x4_1+3))))) else (none)) else (none))=some r:=by first|(rw [hji28] at H;exact H)|(simp only [hji28] at H ⊢;exact H)
         (try rw [hji28] at A22);replace H:=zif_ H;obtain ⟨c29,H⟩:=H;have c29b0:=decide_eq_true c29;clear c29;replace H:=zif_ H;obtain ⟨c30,H⟩:=H;have c30b0:=decide_eq_true c30;clear c30;replace H:=zbd_ H;obtain ⟨⟨t15,t18⟩,A31,H⟩:=H;try dsimp only at H
         by_cases c32:t18=0
         ·rw [if_pos c32] at H;have c32b0:=beq_iff_eq.mpr c32;have c32b1:=bne_eq_false_iff_eq.mpr c32;clear c32;have H':=Aside0.mk H;clear H;obtain ⟨p3,q3,ad3,e3,hx3_0⟩:=zat_ (Kd.at_int HR0.out (ji19));obtain rfl:ad1=ad3:=(by injection e3);replace hx3_0:=zx_ HB hx3_0;obtain ⟨Ao33,co33,eo33⟩:=Kd.R_slice HO_3.out;subst eo33
          go_wp2_with (first|((with_reducible refine gate_dst (N:=60) rfl ?_);(try (refine gate_guard (by rfl) ?_;dsimp only));refine Kd.R_lit (Kd.int .u8) _ 5 ?hg (N:=60) ?hd (xs:=([(wrap64 (97+(Int.tmod (wrap64 ((x3_1.length:Int)*5)) 24))) % 256]:List Int)) (inner:=[.int .u8 ((wrap64 (97+(Int.tmod (wrap64 ((x3_1.length:Int)*5)) 24))) % 256)]) (ok:=fun _=>True) (okp:=fun _=>True) ?hr ?hp (fun _ hk=>hk) trivial (Below.refl _ _) (Nat.le_refl _) (by simp) ?_;(case hd=>rfl);(case hg=>rfl);(case hr=>first|(go_simp;done)|(go_simp;rfl));(case hp=>exact (Reps.one (show Kd.M (Kd.int .u8) _ _ _ ((wrap64 (97+(Int.tmod (wrap64 ((x3_1.length:Int)*5)) 24))) % 256) [.int .u8 ((wrap64 (97+(Int.tmod (wrap64 ((x3_1.length:Int)*5)) 24))) % 256)] from rfl) (Reps.none _ _)));intro v5 w34 ho35 hb hg_ hnew_;clear hg_ hnew_;(first|rw [←Ny4.out] at ho35|(simp only [Int.reduceToNat] at ho35;rw [←Ny4.out] at ho35));replace HO_3:=ob_ HO_3 hb;have HO6:=am_ (Kd.R_lower ho35 (below_size (zl0_ HB)));replace HB:=am_ (below_step (zl0_ HB) hb);clear hb ho35;have hcv36:=own_string (P:=Try.prog) Try.underlying33 Try.underlying5 Try.underlying9 (Kd.own_of_R HO6.out))|((with_reducible refine gate_callee (f:=83) rfl ?_);refine goesL_ (some 67) rfl rfl Try.func83 (by kernel_rfl) rfl #[.slice Ao33 x3_1.length co33, .string (strOfNums y4), .string x6_11, .agg #[.int .i64 (wrap64 (20+(wrap64 (rd l0 (ji19))))), .int .i64 (wrap64 (20+(wrap64 (rd l0 (ji19))))), .int .i64 (wrap64 (20+(wrap64 (rd l0 (ji19)))))]] rfl (by (try simp only [List.map_toArray,List.map_cons,List.map_nil]);first|done|(simp only [hji19];rfl)|rfl|(simp only [List.length_drop,List.length_take];rfl)) ?_;(with_reducible refine (r10_Create.calls kj11 _ _ x3_1 (strOfNums y4) x6_11 (wrap64 (20+(wrap64 (rd l0 (ji19))))) (wrap64 (20+(wrap64 (rd l0 (ji19))))) (wrap64 (20+(wrap64 (rd l0 (ji19))))) t7 t10 _ ?side1 ?side2 A22.out).mono ?_);(case side1=>exact zc_ (Kd.R_reads' HO_3.out).2.2);(case side2=>exact (Kd.R_reads' HO_3.out).2.1);rintro e w37 ⟨v8,rfl,ho0,hb⟩;refine ⟨_,rfl, ?_⟩;replace HO6:=ob_ HO6 hb;have HO9:=am_ (Kd.R_lower (Kd.R_new' ho0 (Kd.R_lt (zr_ HO_3))) (below_size (zl0_ HB)));replace HO_3:=am_ (Kd.R_elder' (zr_ HO_3) (Kd.R_base ho0) hb);replace HB:=am_ (below_step (zl0_ HB) hb);(try clear hb ho0))|((with_reducible refine gate_dst (N:=8) rfl ?_);(try (refine gate_guard (by rfl) ?_;dsimp only));refine bx_ (N:=8) (cs:=#[.slice none 0 0, .int .i64 0]) (t:=73) ?_;intro gb11 hg w38 hbox hb;replace HO_3:=ob_ HO_3 hb;replace HO6:=ob_ HO6 hb;replace HO9:=ob_ HO9 hb;have BK11:=am_ (hbox);have GW11:=am_ ((zg0_ HB hg:w.heap.size≤gb11));have GE11:=am_ ((zg0_ HB hg:w.heap.size≤gb11));replace HB:=am_ (below_step (zl0_ HB) hb);clear hb hbox hg;obtain ⟨Ao39,co39,eo39⟩:=Kd.R_slice HO9.out;subst eo39;obtain ⟨hcz40_0,hcz40_1,hfz40_0,hfz40_1⟩:=y2_ BK11;have p12:0≤((ji24):Int):=of_decide_eq_true zq_;have q12:(ji24)<(l0.length:Int):=of_decide_eq_true zq_;obtain ⟨ad12,e12,hx12_0⟩:=Kd.at_int HR0.out (ji24) p12 q12;obtain rfl:ad1=ad12:=(by injection e12);have hn12_0:ad1.block≠gb11:=Nat.ne_of_lt (Nat.lt_of_lt_of_le (by have:=World.block_lt_of_cell? _ _ hx12_0;first|rwa [add_block] at this|exact this) GW11.out);have hn12_1:ad1.block≠gb11:=Nat.ne_of_lt (Nat.lt_of_lt_of_le (by have:=World.block_lt_of_cell? _ _ hx12_0;first|rwa [add_block] at this|exact this) GW11.out);replace hx12_0:=zx_ HB hx12_0;replace hx12_0:=(cell_far (p:=⟨gb11,0,none⟩) (by first|(rw [add_block];exact hn12_0)|(show (Addr.add _ _).block≠_;rw [add_block];exact hn12_0)|exact hn12_0) (.slice Ao39 t7.length co39)).trans hx12_0;replace hx12_0:=(cell_far (p:=⟨gb11,1,none⟩) (by first|(rw [add_block];exact hn12_1)|(show (Addr.add _ _).block≠_;rw [add_block];exact hn12_1)|exact hn12_1) (.int .i64 t10)).trans hx12_0;clear hn12_0;clear hn12_1;replace p12:=eq_true p12;replace q12:=eq_true q12;have p13:0≤((ji24):Int):=of_decide_eq_true zq_;have q13:(ji24)<(l0.length:Int):=of_decide_eq_true zq_;obtain ⟨ad13,e13,hx13_0⟩:=Kd.at_int HR0.out (ji24) p13 q13;obtain rfl:ad1=ad13:=(by injection e13);have hn13_0:ad1.block≠gb11:=Nat.ne_of_lt (Nat.lt_of_lt_of_le (by have:=World.block_lt_of_cell? _ _ hx13_0;first|rwa [add_block] at this|exact this) GW11.out);have hn13_1:ad1.block≠gb11:=Nat.ne_of_lt (Nat.lt_of_lt_of_le (by have:=World.block_lt_of_cell? _ _ hx13_0;first|rwa [add_block] at this|exact this) GW11.out);replace hx13_0:=zx_ HB hx13_0;replace hx13_0:=(cell_far (p:=⟨gb11,0,none⟩) (by first|(rw [add_block];exact hn13_0)|(show (Addr.add _ _).block≠_;rw [add_block];exact hn13_0)|exact hn13_0) (.slice Ao39 t7.length co39)).trans hx13_0;replace hx13_0:=(cell_far (p:=⟨gb11,1,none⟩) (by first|(rw [add_block];exact hn13_1)|(show (Addr.add _ _).block≠_;rw [add_block];exact hn13_1)|exact hn13_1) (.int .i64 t10)).trans hx13_0;clear hn13_0;clear hn13_1;replace p13:=eq_true p13;replace q13:=eq_true q13;have p14:0≤((ji28):Int):=of_decide_eq_true zq_;have q14:(ji28)<(t7.length:Int):=of_decide_eq_true zq_;obtain ⟨ad14,e14,hx14_0,hx14_1,hx14_2,hx14_3,hx14_4,hx14_5,hx14_6,hx14_7,hx14_8,hx14_9,hx14_10,hx14_11⟩:=at_T79 (Kd.R_reads' HO9.out).2.2 (ji28) p14 q14;cases e14;have hn14_0:ad14.block≠gb11:=Kd.own_blk (Kd.R_ne HO9.out BK11.out (by decide));have hn14_1:ad14.block≠gb11:=Kd.own_blk (Kd.R_ne HO9.out BK11.out (by decide));replace hx14_0:=(cell_far (p:=⟨gb11,0,none⟩) (by first|(rw [add_block];exact hn14_0)|(show (Addr.add _ _).block≠_;rw [add_block];exact hn14_0)|exact hn14_0) (.slice (some ad14) t7.length co39)).trans hx14_0;replace hx14_1:=(cell_far (p:=⟨gb11,0,none⟩) (by first|(rw [add_block];exact hn14_0)|(show (Addr.add _ _).block≠_;rw [add_block];exact hn14_0)|exact hn14_0) (.slice (some ad14) t7.length co39)).trans hx14_1;replace hx14_2:=(cell_far (p:=⟨gb11,0,none⟩) (by first|(rw [add_block];exact hn14_0)|(show (Addr.add _ _).block≠_;rw [add_block];exact hn14_0)|exact hn14_0) (.slice (some ad14) t7.length co39)).trans hx14_2;replace hx14_3:=(cell_far (p:=⟨gb11,0,none⟩) (by first|(rw [add_block];exact hn14_0)|(show (Addr.add _ _).block≠_;rw [add_block];exact hn14_0)|exact hn14_0) (.slice (some ad14) t7.length co39)).trans hx14_3;replace hx14_4:=(cell_far (p:=⟨gb11,0,none⟩) (by first|(rw [add_block];exact hn14_0)|(show (Addr.add _ _).block≠_;rw [add_block];exact hn14_0)|exact hn14_0) (.slice (some ad14) t7.length co39)).trans hx14_4;replace hx14_5:=(cell_far (p:=⟨gb11,0,none⟩) (by first|(rw [add_block];exact hn14_0)|(show (Addr.add _ _).block≠_;rw [add_block];exact hn14_0)|exact hn14_0) (.slice (some ad14) t7.length co39)).trans hx14_5;replace hx14_6:=(cell_far (p:=⟨gb11,0,none⟩) (by first|(rw [add_block];exact hn14_0)|(show (Addr.add _ _).block≠_;rw [add_block];exact hn14_0)|exact hn14_0) (.slice (some ad14) t7.length co39)).trans hx14_6;replace hx14_7:=(cell_far (p:=⟨gb11,0,none⟩) (by first|(rw [add_block];exact hn14_0)|(show (Addr.add _ _).block≠_;rw [add_block];exact hn14_0)|exact hn14_0) (.slice (some ad14) t7.length co39)).trans hx14_7;replace hx14_8:=(cell_far (p:=⟨gb11,0,none⟩) (by first|(rw [add_block];exact hn14_0)|(show (Addr.add _ _).block≠_;rw [add_block];exact hn14_0)|exact hn14_0) (.slice (some ad14) t7.length co39)).trans hx14_8;replace hx14_9:=(cell_far (p:=⟨gb11,0,none⟩) (by first|(rw [add_block];exact hn14_0)|(show (Addr.add _ _).block≠_;rw [add_block];exact hn14_0)|exact hn14_0) (.slice (some ad14) t7.length co39)).trans hx14_9;replace hx14_10:=(cell_far (p:=⟨gb11,0,none⟩) (by first|(rw [add_block];exact hn14_0)|(show (Addr.add _ _).block≠_;rw [add_block];exact hn14_0)|exact hn14_0) (.slice (some ad14) t7.length co39)).trans hx14_10;replace hx14_11:=(cell_far (p:=⟨gb11,0,none⟩) (by first|(rw [add_block];exact hn14_0)|(show (Addr.add _ _).block≠_;rw [add_block];exact hn14_0)|exact hn14_0) (.slice (some ad14) t7.length co39)).trans hx14_11;replace hx14_0:=(cell_far (p:=⟨gb11,1,none⟩) (by first|(rw [add_block];exact hn14_1)|(show (Addr.add _ _).block≠_;rw [add_block];exact hn14_1)|exact hn14_1) (.int .i64 t10)).trans hx14_0;replace hx14_1:=(cell_far (p:=⟨gb11,1,none⟩) (by first|(rw [add_block];exact hn14_1)|(show (Addr.add _ _).block≠_;rw [add_block];exact hn14_1)|exact hn14_1) (.int .i64 t10)).trans hx14_1;replace hx14_2:=(cell_far (p:=⟨gb11,1,none⟩) (by first|(rw [add_block];exact hn14_1)|(show (Addr.add _ _).block≠_;rw [add_block];exact hn14_1)|exact hn14_1) (.int .i64 t10)).trans hx14_2;replace hx14_3:=(cell_far (p:=⟨gb11,1,none⟩) (by first|(rw [add_block];exact hn14_1)|(show (Addr.add _ _).block≠_;rw [add_block];exact hn14_1)|exact hn14_1) (.int .i64 t10)).trans hx14_3;replace hx14_4:=(cell_far (p:=⟨gb11,1,none⟩) (by first|(rw [add_block];exact hn14_1)|(show (Addr.add _ _).block≠_;rw [add_block];exact hn14_1)|exact hn14_1) (.int .i64 t10)).trans hx14_4;replace hx14_5:=(cell_far (p:=⟨gb11,1,none⟩) (by first|(rw [add_block];exact hn14_1)|(show (Addr.add _ _).block≠_;rw [add_block];exact hn14_1)|exact hn14_1) (.int .i64 t10)).trans hx14_5;replace hx14_6:=(cell_far (p:=⟨gb11,1,none⟩) (by first|(rw [add_block];exact hn14_1)|(show (Addr.add _ _).block≠_;rw [add_block];exact hn14_1)|exact hn14_1) (.int .i64 t10)).trans hx14_6;replace hx14_7:=(cell_far (p:=⟨gb11,1,none⟩) (by first|(rw [add_block];exact hn14_1)|(show (Addr.add _ _).block≠_;rw [add_block];exact hn14_1)|exact hn14_1) (.int .i64 t10)).trans hx14_7;replace hx14_8:=(cell_far (p:=⟨gb11,1,none⟩) (by first|(rw [add_block];exact hn14_1)|(show (Addr.add _ _).block≠_;rw [add_block];exact hn14_1)|exact hn14_1) (.int .i64 t10)).trans hx14_8;replace hx14_9:=(cell_far (p:=⟨gb11,1,none⟩) (by first|(rw [add_block];exact hn14_1)|(show (Addr.add _ _).block≠_;rw [add_block];exact hn14_1)|exact hn14_1) (.int .i64 t10)).trans hx14_9;replace hx14_10:=(cell_far (p:=⟨gb11,1,none⟩) (by first|(rw [add_block];exact hn14_1)|(show (Addr.add _ _).block≠_;rw [add_block];exact hn14_1)|exact hn14_1) (.int .i64 t10)).trans hx14_10;replace hx14_11:=(cell_far (p:=⟨gb11,1,none⟩) (by first|(rw [add_block];exact hn14_1)|(show (Addr.add _ _).block≠_;rw [add_block];exact hn14_1)|exact hn14_1) (.int .i64 t10)).trans hx14_11;clear hn14_0;clear hn14_1;replace p14:=eq_true p14;replace q14:=eq_true q14)|((with_reducible refine gate_callee (f:=84) rfl ?_);refine goesL_ (some 102) rfl rfl Try.func84 (by kernel_rfl) rfl #[.slice (some ad14) t7.length co39, .string ((rd_T79 t7 (ji28)).f0), .agg #[.int .i64 (Int.tmod (wrap64 (rd l0 (ji24))) 16), .int .i64 (wrap64 (Int.tdiv (Int.tmod (wrap64 (rd l0 (ji24))) 16) 2)), .int .i64 (Int.tmod (Int.tmod (wrap64 (rd l0 (ji24))) 16) 3)]] rfl (by (try simp only [List.map_toArray,List.map_cons,List.map_nil]);first|done|(simp only [hji24,hji28];rfl)|rfl|(simp only [List.length_drop,List.length_take];rfl)) ?_;(with_reducible refine (r10_Admit.calls kj11 _ _ t7 ((rd_T79 t7 (ji28)).f0) (Int.tmod (wrap64 (rd l0 (ji24))) 16) (wrap64 (Int.tdiv (Int.tmod (wrap64 (rd l0 (ji24))) 16) 2)) (Int.tmod (Int.tmod (wrap64 (rd l0 (ji24))) 16) 3) t15 t18 _ ?side1 ?side2 A31.out).mono ?_);(case side1=>refine (Kd.R_reads' (e:=79) (base:=w.heap.size) (ok:=fun k_=>(True∧some k_≠(.slice Ao33 x3_1.length co33:Value).ownBlock)) (n:=t7.length) (c:=co39) ?_).2.2;exact (by refine zt_ ?_;exact (zv2_ HO9 BK11)));(case side2=>exact (Kd.R_reads' HO9.out).2.1);rintro e w41 ⟨v16,rfl,ho0,hb⟩;refine ⟨_,rfl, ?_⟩;replace HO6:=am_ (Kd.R_below (by refine zt_ ?_;exact (zv2_ HO6 BK11)) hb);have HO17:=am_ (Kd.R_lower (Kd.R_new' (Kd.R_new' ho0 (Kd.R_lt (by refine zt_ ?_;exact (zv2_ HO_3 BK11)))) (Kd.R_lt (by refine zt_ ?_;exact (zv2_ HO9 BK11)))) (below_size (zl1_ HB GE11)));replace HO_3:=am_ (Kd.R_elder' (by refine zt_ ?_;exact (zv2_ HO_3 BK11)) (Kd.R_base ho0) hb);replace HO9:=am_ (Kd.R_elder' (by refine zt_ ?_;exact (zv2_ HO9 BK11)) (Kd.R_base ho0) hb);replace BK11:=am_ (blk_below (g:=gb11) (o:= .cells #[.slice (some ad14) t7.length co39, .int .i64 t10] 73 (0,0)) (zw_ BK11) hb);replace HB:=am_ (below_step (zl1_ HB GE11) hb);(try clear hb ho0))|((with_reducible refine gate_dst (N:=11) rfl ?_);(try (refine gate_guard (by rfl) ?_;dsimp only));refine bx_ (N:=11) (cs:=#[.slice none 0 0, .int .i64 0]) (t:=73) ?_;intro gb19 hg w42 hbox hb;replace HO_3:=ob_ HO_3 hb;replace HO6:=ob_ HO6 hb;replace HO9:=ob_ HO9 hb;replace HO17:=ob_ HO17 hb;have BK19:=am_ (hbox);have GE19:=am_ ((zg1_ HB GE11 hg:w.heap.size≤gb19));replace HB:=am_ (below_step (zl1_ HB GE11) hb);have NB11_19:=am_ ((zn_ BK11 hg:gb11≠gb19));have NB19_11:=am_ ((zm_ BK11 hg:gb19≠gb11));replace BK11:=bb_ BK11 hb;clear hb hbox hg;obtain ⟨Ao43,co43,eo43⟩:=Kd.R_slice HO17.out;subst eo43;have hnb44:=NB19_11.out;have hnc44:=NB11_19.out;obtain ⟨hcz45_0,hcz45_1⟩:=x2_ BK19;have hfz45_0:=blk_frozen BK19.out 0;have hfz45_1:=blk_frozen BK19.out 1))
          go_roundg kj11
          case measure=>have:=HK1.out;have:=HJ1.out;have:=HJ7.out;have:=HJ11.out;omega
          case rel=>exact ⟨(t15),(wrap64 (x4_1+3)),rf_,H',⟨by have:=HK1.out;have:=HJ1.out;have:=HJ7.out;have:=HJ11.out;omega⟩,⟨zy_ HO17 BK19⟩,⟨zl2_ HB GE11 GE19⟩⟩
         rw [if_neg c32] at H;have c32b0:=beq_eq_false_iff_ne.mpr c32;have c32b1:=bne_iff_ne.mpr c32;have H':=Aside0.mk H;clear H;obtain ⟨p3,q3,ad3,e3,hx3_0⟩:=zat_ (Kd.at_int HR0.out (ji19));obtain rfl:ad1=ad3:=(by injection e3);replace hx3_0:=zx_ HB hx3_0;obtain ⟨Ao46,co46,eo46⟩:=Kd.R_slice HO_3.out;subst eo46
         go_wp2_with (first|((with_reducible refine gate_dst (N:=60) rfl ?_);(try (refine gate_guard (by rfl) ?_;dsimp only));refine Kd.R_lit (Kd.int .u8) _ 5 ?hg (N:=60) ?hd (xs:=([(wrap64 (97+(Int.tmod (wrap64 ((x3_1.length:Int)*5)) 24))) % 256]:List Int)) (inner:=[.int .u8 ((wrap64 (97+(Int.tmod (wrap64 ((x3_1.length:Int)*5)) 24))) % 256)]) (ok:=fun _=>True) (okp:=fun _=>True) ?hr ?hp (fun _ hk=>hk) trivial (Below.refl _ _) (Nat.le_refl _) (by simp) ?_;(case hd=>rfl);(case hg=>rfl);(case hr=>first|(go_simp;done)|(go_simp;rfl));(case hp=>exact (Reps.one (show Kd.M (Kd.int .u8) _ _ _ ((wrap64 (97+(Int.tmod (wrap64 ((x3_1.length:Int)*5)) 24))) % 256) [.int .u8 ((wrap64 (97+(Int.tmod (wrap64 ((x3_1.length:Int)*5)) 24))) % 256)] from rfl) (Reps.none _ _)));intro v5 w47 ho48 hb hg_ hnew_;clear hg_ hnew_;(first|rw [←Ny4.out] at ho48|(simp only [Int.reduceToNat] at ho48;rw [←Ny4.out] at ho48));replace HO_3:=ob_ HO_3 hb;have HO6:=am_ (Kd.R_lower ho48 (below_size (zl0_ HB)));replace HB:=am_ (below_step (zl0_ HB) hb);clear hb ho48;have hcv49:=own_string (P:=Try.prog) Try.underlying33 Try.underlying5 Try.underlying9 (Kd.own_of_R HO6.out))|((with_reducible refine gate_callee (f:=83) rfl ?_);refine goesL_ (some 67) rfl rfl Try.func83 (by kernel_rfl) rfl #[.slice Ao46 x3_1.length co46, .string (strOfNums y4), .string x6_11, .agg #[.int .i64 (wrap64 (20+(wrap64 (rd l0 (ji19))))), .int .i64 (wrap64 (20+(wrap64 (rd l0 (ji19))))), .int .i64 (wrap64 (20+(wrap64 (rd l0 (ji19)))))]] rfl (by (try simp only [List.map_toArray,List.map_cons,List.map_nil]);first|done|(simp only [hji19];rfl)|rfl|(simp only [List.length_drop,List.length_take];rfl)) ?_;(with_reducible refine (r10_Create.calls kj11 _ _ x3_1 (strOfNums y4) x6_11 (wrap64 (20+(wrap64 (rd l0 (ji19))))) (wrap64 (20+(wrap64 (rd l0 (ji19))))) (wrap64 (20+(wrap64 (rd l0 (ji19))))) t7 t10 _ ?side1 ?side2 A22.out).mono ?_);(case side1=>exact zc_ (Kd.R_reads' HO_3.out).2.2);(case side2=>exact (Kd.R_reads' HO_3.out).2.1);rintro e w50 ⟨v8,rfl,ho0,hb⟩;refine ⟨_,rfl, ?_⟩;replace HO6:=ob_ HO6 hb;have HO9:=am_ (Kd.R_lower (Kd.R_new' ho0 (Kd.R_lt (zr_ HO_3))) (below_size (zl0_ HB)));replace HO_3:=am_ (Kd.R_elder' (zr_ HO_3) (Kd.R_base ho0) hb);replace HB:=am_ (below_step (zl0_ HB) hb);(try clear hb ho0))|((with_reducible refine gate_dst (N:=8) rfl ?_);(try (refine gate_guard (by rfl) ?_;dsimp only));refine bx_ (N:=8) (cs:=#[.slice none 0 0, .int .i64 0]) (t:=73) ?_;intro gb11 hg w51 hbox hb;replace HO_3:=ob_ HO_3 hb;replace HO6:=ob_ HO6 hb;replace HO9:=ob_ HO9 hb;have BK11:=am_ (hbox);have GW11:=am_ ((zg0_ HB hg:w.heap.size≤gb11));have GE11:=am_ ((zg0_ HB hg:w.heap.size≤gb11));replace HB:=am_ (below_step (zl0_ HB) hb);clear hb hbox hg;obtain ⟨Ao52,co52,eo52⟩:=Kd.R_slice HO9.out;subst eo52;obtain ⟨hcz53_0,hcz53_1,hfz53_0,hfz53_1⟩:=y2_ BK11;have p12:0≤((ji24):Int):=of_decide_eq_true zq_;have q12:(ji24)<(l0.length:Int):=of_decide_eq_true zq_;obtain ⟨ad12,e12,hx12_0⟩:=Kd.at_int HR0.out (ji24) p12 q12;obtain rfl:ad1=ad12:=(by injection e12);have hn12_0:ad1.block≠gb11:=Nat.ne_of_lt (Nat.lt_of_lt_of_le (by have:=World.block_lt_of_cell? _ _ hx12_0;first|rwa [add_block] at this|exact this) GW11.out);have hn12_1:ad1.block≠gb11:=Nat.ne_of_lt (Nat.lt_of_lt_of_le (by have:=World.block_lt_of_cell? _ _ hx12_0;first|rwa [add_block] at this|exact this) GW11.out);replace hx12_0:=zx_ HB hx12_0;replace hx12_0:=(cell_far (p:=⟨gb11,0,none⟩) (by first|(rw [add_block];exact hn12_0)|(show (Addr.add _ _).block≠_;rw [add_block];exact hn12_0)|exact hn12_0) (.slice Ao52 t7.length co52)).trans hx12_0;replace hx12_0:=(cell_far (p:=⟨gb11,1,none⟩) (by first|(rw [add_block];exact hn12_1)|(show (Addr.add _ _).block≠_;rw [add_block];exact hn12_1)|exact hn12_1) (.int .i64 t10)).trans hx12_0;clear hn12_0;clear hn12_1;replace p12:=eq_true p12;replace q12:=eq_true q12;have p13:0≤((ji24):Int):=of_decide_eq_true zq_;have q13:(ji24)<(l0.length:Int):=of_decide_eq_true zq_;obtain ⟨ad13,e13,hx13_0⟩:=Kd.at_int HR0.out (ji24) p13 q13;obtain rfl:ad1=ad13:=(by injection e13);have hn13_0:ad1.block≠gb11:=Nat.ne_of_lt (Nat.lt_of_lt_of_le (by have:=World.block_lt_of_cell? _ _ hx13_0;first|rwa [add_block] at this|exact this) GW11.out);have hn13_1:ad1.block≠gb11:=Nat.ne_of_lt (Nat.lt_of_lt_of_le (by have:=World.block_lt_of_cell? _ _ hx13_0;first|rwa [add_block] at this|exact this) GW11.out);replace hx13_0:=zx_ HB hx13_0;replace hx13_0:=(cell_far (p:=⟨gb11,0,none⟩) (by first|(rw [add_block];exact hn13_0)|(show (Addr.add _ _).block≠_;rw [add_block];exact hn13_0)|exact hn13_0) (.slice Ao52 t7.length co52)).trans hx13_0;replace hx13_0:=(cell_far (p:=⟨gb11,1,none⟩) (by first|(rw [add_block];exact hn13_1)|(show (Addr.add _ _).block≠_;rw [add_block];exact hn13_1)|exact hn13_1) (.int .i64 t10)).trans hx13_0;clear hn13_0;clear hn13_1;replace p13:=eq_true p13;replace q13:=eq_true q13;have p14:0≤((ji28):Int):=of_decide_eq_true zq_;have q14:(ji28)<(t7.length:Int):=of_decide_eq_true zq_;obtain ⟨ad14,e14,hx14_0,hx14_1,hx14_2,hx14_3,hx14_4,hx14_5,hx14_6,hx14_7,hx14_8,hx14_9,hx14_10,hx14_11⟩:=at_T79 (Kd.R_reads' HO9.out).2.2 (ji28) p14 q14;cases e14;have hn14_0:ad14.block≠gb11:=Kd.own_blk (Kd.R_ne HO9.out BK11.out (by decide));have hn14_1:ad14.block≠gb11:=Kd.own_blk (Kd.R_ne HO9.out BK11.out (by decide));replace hx14_0:=(cell_far (p:=⟨gb11,0,none⟩) (by first|(rw [add_block];exact hn14_0)|(show (Addr.add _ _).block≠_;rw [add_block];exact hn14_0)|exact hn14_0) (.slice (some ad14) t7.length co52)).trans hx14_0;replace hx14_1:=(cell_far (p:=⟨gb11,0,none⟩) (by first|(rw [add_block];exact hn14_0)|(show (Addr.add _ _).block≠_;rw [add_block];exact hn14_0)|exact hn14_0) (.slice (some ad14) t7.length co52)).trans hx14_1;replace hx14_2:=(cell_far (p:=⟨gb11,0,none⟩) (by first|(rw [add_block];exact hn14_0)|(show (Addr.add _ _).block≠_;rw [add_block];exact hn14_0)|exact hn14_0) (.slice (some ad14) t7.length co52)).trans hx14_2;replace hx14_3:=(cell_far (p:=⟨gb11,0,none⟩) (by first|(rw [add_block];exact hn14_0)|(show (Addr.add _ _).block≠_;rw [add_block];exact hn14_0)|exact hn14_0) (.slice (some ad14) t7.length co52)).trans hx14_3;replace hx14_4:=(cell_far (p:=⟨gb11,0,none⟩) (by first|(rw [add_block];exact hn14_0)|(show (Addr.add _ _).block≠_;rw [add_block];exact hn14_0)|exact hn14_0) (.slice (some ad14) t7.length co52)).trans hx14_4;replace hx14_5:=(cell_far (p:=⟨gb11,0,none⟩) (by first|(rw [add_block];exact hn14_0)|(show (Addr.add _ _).block≠_;rw [add_block];exact hn14_0)|exact hn14_0) (.slice (some ad14) t7.length co52)).trans hx14_5;replace hx14_6:=(cell_far (p:=⟨gb11,0,none⟩) (by first|(rw [add_block];exact hn14_0)|(show (Addr.add _ _).block≠_;rw [add_block];exact hn14_0)|exact hn14_0) (.slice (some ad14) t7.length co52)).trans hx14_6;replace hx14_7:=(cell_far (p:=⟨gb11,0,none⟩) (by first|(rw [add_block];exact hn14_0)|(show (Addr.add _ _).block≠_;rw [add_block];exact hn14_0)|exact hn14_0) (.slice (some ad14) t7.length co52)).trans hx14_7;replace hx14_8:=(cell_far (p:=⟨gb11,0,none⟩) (by first|(rw [add_block];exact hn14_0)|(show (Addr.add _ _).block≠_;rw [add_block];exact hn14_0)|exact hn14_0) (.slice (some ad14) t7.length co52)).trans hx14_8;replace hx14_9:=(cell_far (p:=⟨gb11,0,none⟩) (by first|(rw [add_block];exact hn14_0)|(show (Addr.add _ _).block≠_;rw [add_block];exact hn14_0)|exact hn14_0) (.slice (some ad14) t7.length co52)).trans hx14_9;replace hx14_10:=(cell_far (p:=⟨gb11,0,none⟩) (by first|(rw [add_block];exact hn14_0)|(show (Addr.add _ _).block≠_;rw [add_block];exact hn14_0)|exact hn14_0) (.slice (some ad14) t7.length co52)).trans hx14_10;replace hx14_11:=(cell_far (p:=⟨gb11,0,none⟩) (by first|(rw [add_block];exact hn14_0)|(show (Addr.add _ _).block≠_;rw [add_block];exact hn14_0)|exact hn14_0) (.slice (some ad14) t7.length co52)).trans hx14_11;replace hx14_0:=(cell_far (p:=⟨gb11,1,none⟩) (by first|(rw [add_block];exact hn14_1)|(show (Addr.add _ _).block≠_;rw [add_block];exact hn14_1)|exact hn14_1) (.int .i64 t10)).trans hx14_0;replace hx14_1:=(cell_far (p:=⟨gb11,1,none⟩) (by first|(rw [add_block];exact hn14_1)|(show (Addr.add _ _).block≠_;rw [add_block];exact hn14_1)|exact hn14_1) (.int .i64 t10)).trans hx14_1;replace hx14_2:=(cell_far (p:=⟨gb11,1,none⟩) (by first|(rw [add_block];exact hn14_1)|(show (Addr.add _ _).block≠_;rw [add_block];exact hn14_1)|exact hn14_1) (.int .i64 t10)).trans hx14_2;replace hx14_3:=(cell_far (p:=⟨gb11,1,none⟩) (by first|(rw [add_block];exact hn14_1)|(show (Addr.add _ _).block≠_;rw [add_block];exact hn14_1)|exact hn14_1) (.int .i64 t10)).trans hx14_3;replace hx14_4:=(cell_far (p:=⟨gb11,1,none⟩) (by first|(rw [add_block];exact hn14_1)|(show (Addr.add _ _).block≠_;rw [add_block];exact hn14_1)|exact hn14_1) (.int .i64 t10)).trans hx14_4;replace hx14_5:=(cell_far (p:=⟨gb11,1,none⟩) (by first|(rw [add_block];exact hn14_1)|(show (Addr.add _ _).block≠_;rw [add_block];exact hn14_1)|exact hn14_1) (.int .i64 t10)).trans hx14_5;replace hx14_6:=(cell_far (p:=⟨gb11,1,none⟩) (by first|(rw [add_block];exact hn14_1)|(show (Addr.add _ _).block≠_;rw [add_block];exact hn14_1)|exact hn14_1) (.int .i64 t10)).trans hx14_6;replace hx14_7:=(cell_far (p:=⟨gb11,1,none⟩) (by first|(rw [add_block];exact hn14_1)|(show (Addr.add _ _).block≠_;rw [add_block];exact hn14_1)|exact hn14_1) (.int .i64 t10)).trans hx14_7;replace hx14_8:=(cell_far (p:=⟨gb11,1,none⟩) (by first|(rw [add_block];exact hn14_1)|(show (Addr.add _ _).block≠_;rw [add_block];exact hn14_1)|exact hn14_1) (.int .i64 t10)).trans hx14_8;replace hx14_9:=(cell_far (p:=⟨gb11,1,none⟩) (by first|(rw [add_block];exact hn14_1)|(show (Addr.add _ _).block≠_;rw [add_block];exact hn14_1)|exact hn14_1) (.int .i64 t10)).trans hx14_9;replace hx14_10:=(cell_far (p:=⟨gb11,1,none⟩) (by first|(rw [add_block];exact hn14_1)|(show (Addr.add _ _).block≠_;rw [add_block];exact hn14_1)|exact hn14_1) (.int .i64 t10)).trans hx14_10;replace hx14_11:=(cell_far (p:=⟨gb11,1,none⟩) (by first|(rw [add_block];exact hn14_1)|(show (Addr.add _ _).block≠_;rw [add_block];exact hn14_1)|exact hn14_1) (.int .i64 t10)).trans hx14_11;clear hn14_0;clear hn14_1;replace p14:=eq_true p14;replace q14:=eq_true q14)|((with_reducible refine gate_callee (f:=84) rfl ?_);refine goesL_ (some 102) rfl rfl Try.func84 (by kernel_rfl) rfl #[.slice (some ad14) t7.length co52, .string ((rd_T79 t7 (ji28)).f0), .agg #[.int .i64 (Int.tmod (wrap64 (rd l0 (ji24))) 16), .int .i64 (wrap64 (Int.tdiv (Int.tmod (wrap64 (rd l0 (ji24))) 16) 2)), .int .i64 (Int.tmod (Int.tmod (wrap64 (rd l0 (ji24))) 16) 3)]] rfl (by (try simp only [List.map_toArray,List.map_cons,List.map_nil]);first|done|(simp only [hji24,hji28];rfl)|rfl|(simp only [List.length_drop,List.length_take];rfl)) ?_;(with_reducible refine (r10_Admit.calls kj11 _ _ t7 ((rd_T79 t7 (ji28)).f0) (Int.tmod (wrap64 (rd l0 (ji24))) 16) (wrap64 (Int.tdiv (Int.tmod (wrap64 (rd l0 (ji24))) 16) 2)) (Int.tmod (Int.tmod (wrap64 (rd l0 (ji24))) 16) 3) t15 t18 _ ?side1 ?side2 A31.out).mono ?_);(case side1=>refine (Kd.R_reads' (e:=79) (base:=w.heap.size) (ok:=fun k_=>(True∧some k_≠(.slice Ao46 x3_1.length co46:Value).ownBlock)) (n:=t7.length) (c:=co52) ?_).2.2;exact (by refine zt_ ?_;exact (zv2_ HO9 BK11)));(case side2=>exact (Kd.R_reads' HO9.out).2.1);rintro e w54 ⟨v16,rfl,ho0,hb⟩;refine ⟨_,rfl, ?_⟩;replace HO6:=am_ (Kd.R_below (by refine zt_ ?_;exact (zv2_ HO6 BK11)) hb);have HO17:=am_ (Kd.R_lower (Kd.R_new' (Kd.R_new' ho0 (Kd.R_lt (by refine zt_ ?_;exact (zv2_ HO_3 BK11)))) (Kd.R_lt (by refine zt_ ?_;exact (zv2_ HO9 BK11)))) (below_size (zl1_ HB GE11)));replace HO_3:=am_ (Kd.R_elder' (by refine zt_ ?_;exact (zv2_ HO_3 BK11)) (Kd.R_base ho0) hb);replace HO9:=am_ (Kd.R_elder' (by refine zt_ ?_;exact (zv2_ HO9 BK11)) (Kd.R_base ho0) hb);replace BK11:=am_ (blk_below (g:=gb11) (o:= .cells #[.slice (some ad14) t7.length co52, .int .i64 t10] 73 (0,0)) (zw_ BK11) hb);replace HB:=am_ (below_step (zl1_ HB GE11) hb);(try clear hb ho0))|((with_reducible refine gate_dst (N:=11) rfl ?_);(try (refine gate_guard (by rfl) ?_;dsimp only));refine bx_ (N:=11) (cs:=#[.slice none 0 0, .int .i64 0]) (t:=73) ?_;intro gb19 hg w55 hbox hb;replace HO_3:=ob_ HO_3 hb;replace HO6:=ob_ HO6 hb;replace HO9:=ob_ HO9 hb;replace HO17:=ob_ HO17 hb;have BK19:=am_ (hbox);have GE19:=am_ ((zg1_ HB GE11 hg:w.heap.size≤gb19));replace HB:=am_ (below_step (zl1_ HB GE11) hb);have NB11_19:=am_ ((zn_ BK11 hg:gb11≠gb19));have NB19_11:=am_ ((zm_ BK11 hg:gb19≠gb11));replace BK11:=bb_ BK11 hb;clear hb hbox hg;obtain ⟨Ao56,co56,eo56⟩:=Kd.R_slice HO17.out;subst eo56;have hnb57:=NB19_11.out;have hnc57:=NB11_19.out;obtain ⟨hcz58_0,hcz58_1⟩:=x2_ BK19;have hfz58_0:=blk_frozen BK19.out 0;have hfz58_1:=blk_frozen BK19.out 1))
         go_roundg kj11
         case measure=>have:=HK1.out;have:=HJ1.out;have:=HJ7.out;have:=HJ11.out;omega
         case rel=>exact ⟨(t7),(wrap64 (x4_1+3)),rf_,H',⟨by have:=HK1.out;have:=HJ1.out;have:=HJ7.out;have:=HJ11.out;omega⟩,⟨zy_ HO9 BK19⟩,⟨zl2_ HB GE11 GE19⟩⟩
end Go.Proofs.Ytahidkjncljkaaa.Print

namespace Go.Proofs.Ytahidkjncljkaaa.Print
open Go.RowKit Go.Proofs.YtahidkjncljkaaaW.PrintWords Go.Proofs.YtahidkjncljkaaaW.PrintLast
theorem r10_copied_eq (l:List Item) (h:l.length<1000000):r10_copied.f l=some l:=by
 unfold r10_copied.f;simp only [Option.bind_some,List.length_nil,List.nil_append];rw [if_pos (by omega)]
theorem r10_Find_l0 (l:List Item) (n:ByteArray) (hl:l.length<1000000): ∀(d i:Nat),l.length - i=d→i≤l.length→
    Ev (fun k=>r10_Find.l0 k l n i) (fidx (fun x:Item=>x.f0.toList==n.toList) (l.drop i) i)
  | 0, i, hd, hi => by
    obtain rfl:i=l.length:=by omega
    refine Ev.step (f:=fun _=>some (-1)) (fun k=> ?_) (by rw [List.drop_length];exact Ev.now _);simp only [r10_Find.l0];rw [if_neg (by omega)]
  | d + 1, i, hd, hi => by
    have hlt:i<l.length:=by omega
    rw [fidx_drop _ zItem l i hlt];have hrd:rd_T79 l (i:Int)=l.getD i zItem:=by rw [rd_item,Int.toNat_natCast]
    by_cases e:(l.getD i zItem).f0.toList=n.toList
    · rw [if_pos (beq_iff_eq.2 e)]
      refine Ev.step (f:=fun _=>some (i:Int)) (fun k=> ?_) (Ev.now _)
      simp only [r10_Find.l0]
      rw [if_pos (by omega),if_pos (by omega),hrd,if_pos e]
    rw [if_neg (fun q=>e (beq_iff_eq.1 q))];refine Ev.step (f:=fun k=>r10_Find.l0 k l n ((i+1:Nat):Int)) (fun k=> ?_) (r10_Find_l0 l n hl d (i+1) (by omega) (by omega));simp only [r10_Find.l0];rw [if_pos (by omega),if_pos (by omega),hrd,if_neg e,w64 (by omega) (by omega)]
    rfl
theorem r10_Find_ev (l:List Item) (n:ByteArray) (hl:l.length<1000000):Ev (fun k=>r10_Find.f k l n) (fnd l n):=r10_Find_l0 l n hl _ 0 rfl (by omega)
theorem r10_Up_l0 (l:List Item) (hl:l.length<1000000): ∀(m:Nat) (n:ByteArray) (out:List ByteArray),out.length+m=l.length+1→
    Ev (fun k=>r10_Up.l0 k l out (fnd l n)) (out++upGo l m n)
  | 0, n, out, hm => by
    rw [upGo.eq_1,List.append_nil];refine Ev.step (f:=fun _=>some out) (fun k=> ?_) (Ev.now _);simp only [r10_Up.l0];by_cases h:0≤fnd l n
    · rw [if_pos h,if_neg (by omega)]
    rw [if_neg h]
  | m + 1, n, out, hm => by
    cases h:look l n with
    | none =>
      rw [upGo_none h,List.append_nil];refine Ev.step (f:=fun _=>some out) (fun k=> ?_) (Ev.now _);simp only [r10_Up.l0];rw [fnd_none h,if_neg (by omega)]
    | some x =>
      rw [upGo_some h];have h0:=fnd_ge.2 ⟨x,h⟩;have h1:=fnd_lt l n;obtain ⟨hx,hn⟩:=look_mem h;refine Ev.step (f:=fun k=>(r10_Find.f k l x.f1).bind fun t=>r10_Up.l0 k l (out++ [n]) t) (fun k=> ?_) (Ev.bind (r10_Find_ev l x.f1 hl) ?_)
      · simp only [r10_Up.l0]
        rw [if_pos h0,if_pos (by omega),if_pos h0,if_pos h1,if_pos (by omega),fnd_rd h,hn]
      have:=r10_Up_l0 l hl m x.f1 (out++ [n]) (by simp;omega)
      simpa using this
theorem r10_Up_ev (l:List Item) (n:ByteArray) (hl:l.length<1000000):Ev (fun k=>r10_Up.f k l n) (up l n):=
 Ev.bind (r10_Find_ev l n hl) (by have:=r10_Up_l0 l hl (l.length+1) n [] (by simp);rw [List.nil_append] at this;exact this)
theorem set_at {l:List Item} (hn:(l.map (·.f0)).Nodup) {n:ByteArray} {x:Item} (h:look l n=some x) (y:Item):
    l.set (fnd l n).toNat y=l.map (fun z=>if z.f0=n then y else z):=by
  obtain ⟨j,h1,h2,h3,h4,h5⟩:=fnd_some h
  rw [h2,Int.toNat_natCast]
  have hx:l[j]=x:=by rw [←h3];simp [h1]
  apply List.ext_getElem (by simp)
  intro m hm hm'
  simp only [List.length_set] at hm
  rw [List.getElem_set,List.getElem_map]
  by_cases e:j=m
  · subst e
    rw [if_pos rfl,if_pos (by rw [hx];exact h4)]
  rw [if_neg e,if_neg]
  intro q
  have h6:(l.map (·.f0))[j]'(by simpa using h1)=(l.map (·.f0))[m]'(by simpa using hm):=by simp [hx,h4,q]
  exact e ((List.getElem_inj hn).1 h6)
theorem fnd_map {f:Item→Item} (hf: ∀x,(f x).f0=x.f0) (l:List Item) (n:ByteArray):fnd (l.map f) n=fnd l n:=by
 have: ∀(l:List Item) (i:Int),fidx (fun x:Item=>x.f0.toList==n.toList) (l.map f) i=fidx (fun x:Item=>x.f0.toList==n.toList) l i:=by
  intro l
  induction l with
  |nil=>intro i;rfl
  |cons x l ih=>intro i;simp only [List.map_cons,fidx,hf,ih]
 exact this l 0
def admS (us:List ByteArray) (v:Vec) (x:Item):Item:=⟨x.f0,x.f1,x.f2,x.f3,if x.f0∈us then vadd x.f4 v else x.f4,x.f5⟩
def admR (l:List Item) (n:ByteArray) (v:Vec):List Item×Int:=
 if¬MayP v then ([],1) else if (look l n).isNone=true then ([],2) else if∀x∈l,x.f0∈up l n→LeP (vadd x.f4 v) x.f2 then (admL l n v,0) else ([],12)
theorem vadd_wrap {a b:Vec} (ha:MayP a) (hb:MayP b):(wrap64 (a.f0+b.f0),wrap64 (a.f1+b.f1),wrap64 (a.f2+b.f2))=((vadd a b).f0,(vadd a b).f1,(vadd a b).f2):=by
 have a0:=ha .cpu;have a1:=ha .mem;have a2:=ha .pods;have b0:=hb .cpu;have b1:=hb .mem;have b2:=hb .pods;simp only [Comp.of] at a0 a1 a2 b0 b1 b2;rw [w64 (by omega) (by omega),w64 (by omega) (by omega),w64 (by omega) (by omega)]
 rfl
theorem r10_Add_eq {a b:Vec} (ha:MayP a) (hb:MayP b):r10_Add.f a.f0 a.f1 a.f2 b.f0 b.f1 b.f2=some ((vadd a b).f0,(vadd a b).f1,(vadd a b).f2):=by
 unfold r10_Add.f;rw [vadd_wrap ha hb]
theorem look_admS (us:List ByteArray) (v:Vec) (l:List Item) (n:ByteArray):look (l.map (admS us v)) n=(look l n).map (admS us v):=look_map (f:=admS us v) (fun _=>rfl) l n
theorem drop_cons {us:List ByteArray} {i:Nat} (h:i<us.length):us.drop i=rdOf ByteArray.empty us i::us.drop (i+1):=by
 rw [List.drop_eq_getElem_cons h];simp [rdOf,h]
theorem take_snoc_ {us:List ByteArray} {i:Nat} (h:i<us.length):us.take (i+1)=us.take i++ [rdOf ByteArray.empty us i]:=by
 rw [List.take_succ_eq_append_getElem h];simp [rdOf,h]
theorem fnd_admS (us:List ByteArray) (v:Vec) (l:List Item) (n:ByteArray):fnd (l.map (admS us v)) n=fnd l n:=fnd_map (f:=admS us v) (fun _=>rfl) l n
theorem nodup_admS {us:List ByteArray} {v:Vec} {l:List Item} (h:(l.map (·.f0)).Nodup):((l.map (admS us v)).map (·.f0)).Nodup:=by
 rw [List.map_map];exact h
theorem r10_Admit_l0 {l:List Item} (hl:RightP l) (n:ByteArray) {v:Vec} (hv:MayP v) (hin: ∃x,look l n=some x): ∀(d i:Nat),(up l n).length - i=d→i≤(up l n).length→
    Ev (fun k=>r10_Admit.l0 k n (up l n) (l.map (admS ((up l n).take i) v)) i v.f0 v.f1 v.f2) (if∀x∈l,x.f0∈(up l n).drop i→LeP (vadd x.f4 v) x.f2 then (admL l n v,0) else ([],12))
  | 0, i, hd, hi => by
    obtain rfl:i=(up l n).length:=by omega
    rw [List.drop_length,List.take_length,if_pos (by simp)];obtain ⟨x,hx⟩:=hin;obtain ⟨hm,hxn⟩:=look_mem hx;have hlk:look (l.map (admS (up l n) v)) n=some (admS (up l n) v x):=by rw [look_admS,hx];rfl
    have h0:0≤fnd l n:=fnd_ge.2 ⟨x,hx⟩;have h1:fnd l n<l.length:=fnd_lt l n;obtain ⟨K,hK⟩:=r10_Find_ev (l.map (admS (up l n) v)) n (by rw [List.length_map];have:=hl.len;omega);dsimp only at hK;refine ⟨K+1,fun k hk=> ?_⟩;obtain ⟨k,rfl⟩: ∃m,k=m+1:=⟨k - 1,by omega⟩;have hrd:=fnd_rd hlk;rw [fnd_admS] at hrd;simp only [r10_Admit.l0];rw [if_neg (by omega),hK k (by omega),fnd_admS];simp only [Option.bind_some];rw [if_pos h0,if_pos (by rw [List.length_map];omega),hrd,r10_Add_eq (a:=(admS (up l n) v x).f3) (hl.ok x hm).own hv];simp only [Option.bind_some];have hset:=set_at (nodup_admS (us:=up l n) (v:=v) hl.nodup) hlk;rw [fnd_admS] at hset;rw [hset,List.map_map]
    congr 2
    unfold admL;refine List.map_congr_left fun z hz=> ?_
    simp only [Function.comp,admF];by_cases e:z.f0=n
    · obtain rfl : z = x := hl.eq_of hz hm (e.trans hxn.symm)
      rw [if_pos (by exact e),if_pos e]
      rfl
    rw [if_neg (by exact e),if_neg e]
    rfl
  | d + 1, i, hd, hi => by
    have hlt:i<(up l n).length:=by omega
    have hc:=hl.chainAll n;have hnd:=hc.nodup;rw [drop_cons hlt];have hu:rdOf ByteArray.empty (up l n) i∈up l n:=by simp [rdOf,hlt]
    obtain ⟨x,hx⟩:=hc.mem_look hu;obtain ⟨hm,hxn⟩:=look_mem hx
    have hnot:x.f0 ∉ (up l n).take i:=by
      rw [hxn];rw [←List.take_append_drop i (up l n),drop_cons hlt,List.nodup_append] at hnd;exact fun q=>hnd.2.2 _ q _ (by simp) rfl
    generalize hU:rdOf ByteArray.empty (up l n) i=u at*;have hlk:look (l.map (admS ((up l n).take i) v)) u=some (admS ((up l n).take i) v x):=by rw [look_admS,hx];rfl
    have hsame:admS ((up l n).take i) v x=x:=by unfold admS;rw [if_neg hnot]
    rw [hsame] at hlk;have h0:0≤fnd l u:=fnd_ge.2 ⟨x,hx⟩;have h1:fnd l u<l.length:=fnd_lt l u;have hrd:=fnd_rd hlk;have hset:=set_at (nodup_admS (us:=(up l n).take i) (v:=v) hl.nodup) hlk;rw [fnd_admS] at hrd;rw [fnd_admS] at hset;obtain ⟨K,hK⟩:=r10_Find_ev (l.map (admS ((up l n).take i) v)) u (by rw [List.length_map];have:=hl.len;omega);obtain ⟨K',hK'⟩:=r10_Admit_l0 hl n hv hin d (i+1) (by omega) (by omega);dsimp only at hK hK';refine ⟨K+K'+1,fun k hk=> ?_⟩;obtain ⟨k,rfl⟩: ∃m,k=m+1:=⟨k - 1,by omega⟩;have hup:(up l n).length≤l.length:=hc.len;have hlen:=hl.len;simp only [r10_Admit.l0];rw [if_pos (by omega),if_pos (by omega),hU,hK k (by omega),fnd_admS];simp only [Option.bind_some];rw [if_pos h0,if_pos (by rw [List.length_map];omega),hrd,r10_Add_eq (a:=x.f4) (hl.ok x hm).sub hv];simp only [Option.bind_some];rw [hset,List.map_map]
    have hnew:(l.map ((fun z:Item=>if z.f0=u then (⟨x.f0,x.f1,⟨x.f2.f0,x.f2.f1,x.f2.f2⟩,⟨x.f3.f0,x.f3.f1,x.f3.f2⟩,⟨(vadd x.f4 v).f0,(vadd x.f4 v).f1,(vadd x.f4 v).f2⟩,x.f5⟩:Item) else z) ∘ admS ((up l n).take i) v))=l.map (admS ((up l n).take (i+1)) v):=by
      refine List.map_congr_left fun z hz=> ?_
      simp only [Function.comp];rw [take_snoc_ hlt,hU];by_cases e:z.f0=u
      · obtain rfl : z = x := hl.eq_of hz hm (e.trans hxn.symm)
        rw [if_pos (by exact e)]
        unfold admS
        rw [if_pos (by simp [e])]
      rw [if_neg (by exact e)];unfold admS
      simp [e]
    rw [hnew];have hlk2:look (l.map (admS ((up l n).take (i+1)) v)) u=some (admS ((up l n).take (i+1)) v x):=by rw [look_admS,hx];rfl
    have hrd2:=fnd_rd hlk2;rw [fnd_admS] at hrd2;have hx2:admS ((up l n).take (i+1)) v x=⟨x.f0,x.f1,x.f2,x.f3,vadd x.f4 v,x.f5⟩:=by unfold admS;rw [if_pos (by rw [take_snoc_ hlt,hU,hxn];simp)]
    rw [hrd2,hx2,r10_Le_eq];simp only [Option.bind_some];by_cases hfit:LeP (vadd x.f4 v) x.f2;rotate_left
    · rw [if_neg (by simpa using hfit), if_neg (fun q => hfit (q x hm (by rw [hxn]; simp)))]
      rfl
    rw [if_pos (by exact decide_eq_true hfit),w64 (by omega) (by omega)];have h2:=hK' k (by omega);rw [show ((i:Int)+1)=((i+1:Nat):Int) from by omega,h2]
    congr 1
    refine ite_iff ⟨fun q z hz hzm=> ?_,fun q z hz hzm=>q z hz (by simp [hzm])⟩
    rcases List.mem_cons.1 hzm with e|hzm
    · obtain rfl : z = x := hl.eq_of hz hm (e.trans hxn.symm)
      exact hfit
    exact q z hz hzm
theorem r10_Admit_ev {l:List Item} (hl:RightP l) (n:ByteArray) (v:Vec):Ev (fun k=>r10_Admit.f k l n v.f0 v.f1 v.f2) (admR l n v):=by
  have hlen:=hl.len;refine Ev.bind (r10_Up_ev l n (by omega)) ?_;have hmv:r10_MayVec.f v.f0 v.f1 v.f2=some (decide (MayP v)):=r10_MayVec_eq _ _ _;unfold admR;by_cases hv:MayP v;rotate_left
  · rw [if_pos hv]
    refine Ev.congr (fun k=> ?_) (Ev.now _)
    rw [hmv]
    simp only [Option.bind_some]
    rw [if_neg (by simpa using hv)]
    rfl
  rw [if_neg (by simpa using hv)]
  cases hx:look l n with
  | none =>
    rw [if_pos (show (none:Option Item).isNone=true from rfl)];refine Ev.congr (fun k=> ?_) (Ev.now _);rw [hmv];simp only [Option.bind_some];rw [if_pos (by exact decide_eq_true hv),show up l n=[] from upGo_none hx _]
    rfl
  | some x =>
    rw [if_neg (by simp)];have h:=r10_Admit_l0 hl n hv ⟨x,hx⟩ _ 0 rfl (by omega);rw [List.take_zero,List.drop_zero,show l.map (admS [] v)=l from by rw [show admS [] v=id from by funext z;simp [admS]];simp] at h;refine Ev.congr (fun k=> ?_) h;rw [hmv];simp only [Option.bind_some];have:(up l n).length≠0:=by have:=up_self hx;intro q;rw [List.length_eq_zero_iff.1 q] at this;cases this
    rw [if_pos (by exact decide_eq_true hv),if_neg (by omega),r10_copied_eq l (by omega)]
    rfl
def zVec:Vec:=⟨0,0,0⟩
def newItem (n p:ByteArray) (v:Vec):Item:=⟨n,p,v,zVec,zVec,1⟩
def creR (l:List Item) (n p:ByteArray) (v:Vec):List Item×Int:=
 if¬((n≠⟨#[]⟩∧n.size≤24)∧MayP v) then ([],1) else if (look l n).isSome=true then ([],3) else if p≠⟨#[]⟩∧(look l p).isNone=true then ([],2) else if 120≤l.length then ([],4) else (insL l (newItem n p v),0)
theorem insL_cons (x:Item) (l:List Item) (it:Item):insL (x::l) it=if lt x.f0 it.f0=true then x::insL l it else it::x::l:=by
 unfold insL;rw [List.takeWhile_cons,List.dropWhile_cons]
 cases lt x.f0 it.f0<;>simp
theorem r10_Create_l0 (n p:ByteArray) (v:Vec) (b:List Item): ∀(a l:List Item),l=a++b→l.length<1000000→Ev (fun k=>r10_Create.l0 k l n p a.length v.f0 v.f1 v.f2) (a++insL b (newItem n p v),0):=by
  induction b with
  | nil =>
    rintro a l rfl hl;simp only [List.append_nil] at hl ⊢;refine Ev.step (f:=fun _=>some (a++ [newItem n p v],0)) (fun k=> ?_) (Ev.now _);simp only [r10_Create.l0];rw [if_neg (by omega),if_pos (by omega),if_pos (by omega),Int.toNat_natCast,List.take_length,r10_copied_eq a (by omega)];simp only [Option.bind_some,List.drop_length,List.length_append,List.length_cons,List.length_nil];rw [if_pos (by omega),if_pos (by omega),List.append_nil]
    rfl
  | cons x b ih =>
    rintro a l rfl hl;have hlen:(a++x::b).length=a.length+b.length+1:=by simp;omega
    have hrd:rd_T79 (a++x::b) (a.length:Int)=x:=by rw [rd_item,Int.toNat_natCast];simp
    rw [insL_cons];by_cases e:lt x.f0 n=true
    · rw [if_pos (by exact e)]
      have h:=ih (a++ [x]) (a++x::b) (by simp) hl
      refine Ev.step (f:=fun k=>r10_Create.l0 k (a++x::b) n p (a++ [x]).length v.f0 v.f1 v.f2) (fun k=> ?_) (by simpa using h)
      simp only [r10_Create.l0]
      rw [if_pos (by omega),if_pos (by omega),hrd,if_pos (by exact e),w64 (by omega) (by omega)]
      simp
    rw [if_neg (by exact e)];refine Ev.step (f:=fun _=>some (a++newItem n p v::x::b,0)) (fun k=> ?_) (Ev.now _);simp only [r10_Create.l0];rw [if_pos (by omega),if_pos (by omega),hrd,if_neg (by exact e),if_pos (by omega),Int.toNat_natCast,List.take_left,r10_copied_eq a (by omega)];simp only [Option.bind_some,List.drop_left,List.length_append,List.length_cons,List.length_nil];rw [if_pos (by omega),if_pos (by omega)]
    simp
    rfl
theorem r10_Create_ev {l:List Item} (hl:l.length<1000000) (n p:ByteArray) (v:Vec):Ev (fun k=>r10_Create.f k l n p v.f0 v.f1 v.f2) (creR l n p v):=by
  have hmv:r10_MayVec.f v.f0 v.f1 v.f2=some (decide (MayP v)):=r10_MayVec_eq _ _ _;have hno: ∀e:Int,((r10_no.f e).bind fun bt=>some (bt.1,bt.2))=some (([]:List Item),e):=fun _=>rfl
  have hj1: ∀b,Ev (fun k=>r10_Create.j1 k l n p b v.f0 v.f1 v.f2) (if b=true then ([],2) else if 120≤l.length then ([],4) else (insL l (newItem n p v),0)):=by
    intro b
    cases b with
    | true =>
      refine Ev.step (f:=fun _=>some ([],2)) (fun k=> ?_) (Ev.now _);simp only [r10_Create.j1,if_true];exact hno 2
    | false =>
      simp only [Bool.false_eq_true,if_false];by_cases h:120≤l.length
      · rw [if_pos h]
        refine Ev.step (f:=fun _=>some ([],4)) (fun k=> ?_) (Ev.now _)
        simp only [r10_Create.j1,Bool.false_eq_true,if_false]
        rw [if_pos (by omega)];exact hno 4
      rw [if_neg h];refine Ev.step (f:=fun k=>r10_Create.l0 k l n p 0 v.f0 v.f1 v.f2) (fun k=> ?_) (by have:=r10_Create_l0 n p v l [] l rfl hl;simpa using this);simp only [r10_Create.j1,Bool.false_eq_true,if_false];rw [if_neg (by omega)]
  have hj0: ∀b,Ev (fun k=>r10_Create.j0 k l n p b v.f0 v.f1 v.f2) (if b=true then ([],1) else if (look l n).isSome=true then ([],3) else if p≠⟨#[]⟩∧(look l p).isNone=true then ([],2) else if 120≤l.length then ([],4) else (insL l (newItem n p v),0)):=by
    intro b
    cases b with
    | true =>
      refine Ev.step (f:=fun _=>some ([],1)) (fun k=> ?_) (Ev.now _);simp only [r10_Create.j0,if_true];exact hno 1
    | false =>
      simp only [Bool.false_eq_true,if_false];refine Ev.step (f:=fun k=>(r10_Find.f k l n).bind fun t=>if t≥0 then some ([],3) else if p.toList=([]:List UInt8) then r10_Create.j1 k l n p false v.f0 v.f1 v.f2 else (r10_Find.f k l p).bind fun t=>r10_Create.j1 k l n p (decide (t<0)) v.f0 v.f1 v.f2) (fun k=> ?_) (Ev.bind (r10_Find_ev l n hl) ?_)
      · simp only [r10_Create.j0,Bool.false_eq_true,if_false];rfl
      cases hn:look l n with
      | some x =>
        refine Ev.congr (fun k=> ?_) (Ev.now _);rw [if_pos (fnd_ge.2 ⟨x,hn⟩)];rfl
      | none =>
        simp only [Option.isSome_none,Bool.false_eq_true,if_false];by_cases hp:p=⟨#[]⟩
        · have h := hj1 false
          simp only [Bool.false_eq_true,if_false] at h
          rw [if_neg (fun q=>q.1 hp)]
          refine Ev.congr (fun k=> ?_) h
          rw [fnd_none hn,if_neg (by omega),if_pos (nm_empty.2 hp)]
        have h:=hj1 (decide (fnd l p<0));refine Ev.congr (g:=fun k=>_) (f:=fun k=>(r10_Find.f k l p).bind fun t=>r10_Create.j1 k l n p (decide (t<0)) v.f0 v.f1 v.f2) (fun k=> ?_) (Ev.bind (r10_Find_ev l p hl) ?_)
        · rw [fnd_none hn,if_neg (by omega),if_neg (fun q=>hp (nm_empty.1 q))]
        have e:(p≠⟨#[]⟩∧(look l p).isNone=true)↔(decide (fnd l p<0)=true):=by
          rw [decide_eq_true_iff,fnd_neg];simp [hp]
        rw [ite_iff e];exact h
  unfold creR;by_cases hn:n≠⟨#[]⟩∧n.size≤24
  · have h := hj0 (!decide (MayP v))
    rw [ite_iff (q:=(!decide (MayP v))=true) (by simp [hn])]
    refine Ev.congr (fun k=> ?_) h
    unfold r10_Create.f
    rw [r10_MayName_eq,hmv]
    simp only [Option.bind_some]
    rw [if_pos (by exact decide_eq_true hn)]
  have h:=hj0 true;rw [if_pos (fun q=>hn q.1)];rw [if_pos rfl] at h;refine Ev.congr (fun k=> ?_) h;unfold r10_Create.f;rw [r10_MayName_eq];simp only [Option.bind_some];rw [if_neg (by simpa using hn)]
theorem creR_right {l:List Item} (hl:RightP l) {n p:ByteArray} {v:Vec} (h:(creR l n p v).2=0):
    (creR l n p v).1=insL l (newItem n p v)∧RightP (insL l (newItem n p v))∧look l n=none∧l.length<120∧n≠⟨#[]⟩∧n.size≤24∧MayP v∧(p=⟨#[]⟩∨ ∃y,look l p=some y):=by
  unfold creR at h ⊢
  split at h
  · simp at h
  rename_i h1
  split at h
  · simp at h
  rename_i h2
  split at h
  · simp at h
  rename_i h3
  split at h
  · simp at h
  rename_i h4
  rw [if_neg h1,if_neg h2,if_neg h3,if_neg h4];obtain ⟨⟨h5,h6⟩,h7⟩:=Classical.not_not.1 h1
  have hn:look l n=none:=by cases q:look l n with
    |none=>rfl
    |some x=>rw [q] at h2;simp at h2
  have hp:p=⟨#[]⟩∨ ∃y,look l p=some y:=by
    by_cases e:p=⟨#[]⟩
    · exact .inl e
    right
    cases q:look l p with
    |none=>rw [q] at h3;exact absurd ⟨e,rfl⟩ h3
    |some y=>exact ⟨y,rfl⟩
  have hz: ∀c:Comp,c.of zVec=0:=fun c=>by cases c<;>rfl
  refine ⟨rfl,ins_right hl ⟨h5,h6,h7,fun c=> ?_,fun c=> ?_,fun c=> ?_, ?_⟩ (fun c=>⟨hz c,hz c⟩) hn hp (by omega),hn,by omega,h5,h6,h7,hp⟩
  · show 0≤c.of zVec∧c.of zVec≤_;rw [hz];omega
  · show 0≤c.of zVec∧c.of zVec≤_;rw [hz];omega
  · show c.of zVec≤c.of v;rw [hz];exact (h7 c).1
  show (1:Int)≤1∧(1:Int)≤_;omega
theorem mem_insL {l:List Item} {it x:Item}:x∈insL l it↔x=it∨x∈l:=by
 obtain ⟨a,b,e,e',_,_⟩:=insL_eq l it;rw [e',e];simp;constructor<;>(intro h;rcases h with h|h|h<;>simp [h])
theorem len_insL (l:List Item) (it:Item):(insL l it).length=l.length+1:=by
 obtain ⟨a,b,e,e',_,_⟩:=insL_eq l it;rw [e',e];simp;omega
theorem admR_right {l:List Item} (hl:RightP l) {n:ByteArray} {v:Vec} (h:(admR l n v).2=0):(admR l n v).1=admL l n v∧RightP (admL l n v)∧MayP v∧(∃x,look l n=some x)∧ ∀x∈l,x.f0∈up l n→LeP (vadd x.f4 v) x.f2:=by
  unfold admR at h ⊢
  split at h
  · simp at h
  rename_i h1
  split at h
  · simp at h
  rename_i h2
  split at h
  rotate_left
  · simp at h
  rename_i h3
  rw [if_neg h1,if_neg h2,if_pos h3];have hv:MayP v:=Classical.not_not.1 h1
  have hin: ∃x,look l n=some x:=by
    cases q:look l n with
    |none=>rw [q] at h2;simp at h2
    |some x=>exact ⟨x,rfl⟩
  have hsub: ∀x∈l,x.f0∈up l n→MayP (vadd x.f4 v):=fun x hx hm c=>by
    have a:=(hl.ok x hx).sub c;have b:=hv c;have d:=h3 x hx hm c;have e:=(hl.ok x hx).lim c;rw [of_vadd] at d ⊢;omega
  refine ⟨rfl,adm_right hl v hin (fun x hx e c=> ?_) hsub h3,hv,hin,h3⟩;have hm:x.f0∈up l n:=by obtain ⟨y,hy⟩:=hin;rw [e];exact up_self hy
  have a:=(hl.ok x hx).own c;have b:=hv c;have d:=hsub x hx hm c;have f:=hl.sum c x hx
  have g:0≤csum c l x.f0:=sumBy_nonneg fun y hy=>by
    split
    · exact ((hl.ok y hy).sub c).1
    omega
  rw [of_vadd] at d ⊢;omega
abbrev PMark:=S84
abbrev zPMark:PMark:=z84
theorem rd_pmark (l:List PMark) (i:Int):rd_T84 l i=l.getD i.toNat zPMark:=rfl
theorem rd_pmarkN (l:List PMark) {i:Nat} (h:i<l.length):rd_T84 l (i:Int)=l[i]:=by
 rw [rd_pmark,Int.toNat_natCast,List.getD_eq_getElem?_getD,List.getElem?_eq_getElem h,Option.getD_some]
theorem rd_itemN (l:List Item) {i:Nat} (h:i<l.length):rd_T79 l (i:Int)=l[i]:=by
 rw [rd_item,Int.toNat_natCast,List.getD_eq_getElem?_getD,List.getElem?_eq_getElem h,Option.getD_some]
def mlook (ms:List PMark) (n:ByteArray):Option PMark:=ms.find? (fun x=>x.f0=n)
def mfnd (ms:List PMark) (n:ByteArray):Int:=fidx (fun x:PMark=>x.f0.toList==n.toList) ms 0
theorem mlook_none {ms:List PMark} {n:ByteArray}:mlook ms n=none↔ ∀x∈ms,x.f0≠n:=by
 unfold mlook
 simp
theorem mfnd_neg {ms:List PMark} {n:ByteArray}:mfnd ms n<0↔mlook ms n=none:=by
  have hp:(fun x:PMark=>x.f0.toList==n.toList)=(fun x:PMark=>decide (x.f0=n)):=by funext x;exact nm_beq _ _
  unfold mfnd
  cases h:mlook ms n with
  | none =>
    rw [fidx_none fun x hx=>by rw [nm_beq];simpa using mlook_none.1 h x hx]
    simp
  | some x =>
    have h':ms.find? (fun x:PMark=>x.f0.toList==n.toList)=some x:=by rw [hp];exact h
    obtain ⟨j,h1,h2,_⟩:=fidx_some zPMark (i:=0) h';rw [h2]
    simp
theorem r16_marked_l0 (l:List PMark) (n:ByteArray) (hl:l.length<1000000): ∀(d i:Nat),l.length - i=d→i≤l.length→
    Ev (fun k=>r16_marked.l0 k l n i) (fidx (fun x:PMark=>x.f0.toList==n.toList) (l.drop i) i)
  | 0, i, hd, hi => by
    obtain rfl:i=l.length:=by omega
    rw [List.drop_length];exact Ev.step (fun k=>r16_marked.l0.eq_2 (k:=k) ..) (Ev.congr (fun k=>if_neg (by omega)) (Ev.now _))
  | d + 1, i, hd, hi => by
    have hlt:i<l.length:=by omega
    rw [fidx_drop _ zPMark l i hlt];have hrd:rd_T84 l (i:Int)=l.getD i zPMark:=by rw [rd_pmark,Int.toNat_natCast]
    have e3:wrap64 ((i:Int)+1)=((i+1:Nat):Int):=by rw [w64 (by omega) (by omega)];rfl
    refine Ev.step (fun k=>r16_marked.l0.eq_2 (k:=k) ..) (Ev.congr (fun k=>by rw [if_pos (show (i:Int)<(l.length:Int) by omega),if_pos (show 0≤(i:Int) by omega),hrd,e3]) ?_);by_cases e:(l.getD i zPMark).f0.toList=n.toList
    · rw [if_pos (beq_iff_eq.2 e)]
      exact Ev.congr (fun k=>if_pos e) (Ev.now _)
    rw [if_neg (fun q=>e (beq_iff_eq.1 q))];exact Ev.congr (fun k=>if_neg e) (r16_marked_l0 l n hl d (i+1) (by omega) (by omega))
theorem r16_marked_ev (l:List PMark) (n:ByteArray) (hl:l.length<1000000):Ev (fun k=>r16_marked.f k l n) (mfnd l n):=r16_marked_l0 l n hl _ 0 rfl (by omega)
def upV (l:List Item) (wide:Bool) (w:Want):Vec:=if wide=true then ⟨1099511627776,1099511627776,1099511627776⟩ else match look l w.f0 with
 |some x=>⟨mx x.f2.f0 w.f2.f0,mx x.f2.f1 w.f2.f1,mx x.f2.f2 w.f2.f2⟩
 |none=>w.f2
theorem r16_up_ev {l:List Item} (hl:l.length<1000000) (wide:Bool) (w:Want):Ev (fun k=>r16_up.f k w.f0 w.f1 w.f2.f0 w.f2.f1 w.f2.f2 l wide) ((upV l wide w).f0,(upV l wide w).f1,(upV l wide w).f2):=by
  unfold r16_up.f;refine Ev.bind (r10_Find_ev l w.f0 hl) ?_
  cases wide with
  | true =>
    rw [show upV l true w=⟨1099511627776,1099511627776,1099511627776⟩ from if_pos rfl];exact Ev.congr (fun k=>if_pos rfl) (Ev.const rfl)
  | false =>
    cases h:look l w.f0 with
    | none =>
      have e:upV l false w=w.f2:=by
        unfold upV;rw [if_neg (by simp),h]
      have:=fnd_neg.2 h
      rw [e];exact Ev.congr (fun k=>(if_neg (by simp)).trans (if_neg (by omega))) (Ev.now _)
    | some x =>
      have e:upV l false w=⟨mx x.f2.f0 w.f2.f0,mx x.f2.f1 w.f2.f1,mx x.f2.f2 w.f2.f2⟩:=by
        unfold upV;rw [if_neg (by simp),h]
      have a:=fnd_ge.2 ⟨x,h⟩;have b:=fnd_lt l w.f0;rw [e];refine Ev.congr (fun k=>by rw [if_neg (by simp),if_pos (show fnd l w.f0≥0 from a),if_pos a,if_pos b,fnd_rd h]) ?_;exact Ev.const rfl
def depU (l:List Item) (n:ByteArray):Int:=((up l n).length:Int)
def befG (l:List Item) (n a:ByteArray):Bool:=decide (depU l a>depU l n)||(decide (depU l a=depU l n) && lt a n)
def insG (l:List Item) (n:ByteArray) (out:List ByteArray):List ByteArray:=out.takeWhile (befG l n)++n::out.dropWhile (befG l n)
def isWant (ws:List Want) (n:ByteArray):Bool:=ws.any (fun w=>decide (w.f0=n))
def goesGo (ws:List Want) (l:List Item):List ByteArray→List PMark→List ByteArray
 |out,[]=>out
 |out,m::ms=>if isWant ws m.f0=true then goesGo ws l out ms else goesGo ws l (insG l m.f0 out) ms
def goesR (ws:List Want) (ms:List PMark) (l:List Item):List ByteArray:=goesGo ws l [] ms
theorem len_insG (l:List Item) (n:ByteArray) (out:List ByteArray):(insG l n out).length=out.length+1:=by
 unfold insG;have:=congrArg List.length (List.takeWhile_append_dropWhile (p:=befG l n) (l:=out))
 rw [List.length_append] at this;rw [List.length_append,List.length_cons]
 omega
end Go.Proofs.Ytahidkjncljkaaa.Print

namespace Go.Proofs.Ytahidkjncljkaaa.Print
open Go.RowKit Go.Proofs.YtahidkjncljkaaaW.PrintWords Go.Proofs.YtahidkjncljkaaaW.PrintLast Go.Proofs.YtahidkjncljkaaaW.PrintMore
attribute [local go_sem] max2_int min2_int max_two min_two max_three min_three max_four min_four

def tree_Up.l0:Nat→List (S79)→List ByteArray→Int→Option (List ByteArray)
 |0,_,_,_=>none
 |k+1,x0,x5,x6=>if x6≥0 then (if (x5.length:Int)≤(x0.length:Int) then (if 0≤x6 then (if x6<(x0.length:Int) then (if x5.length<8796093022208 then ((tree_Find.f x0 ((rd_T79 x0 x6).f1)).bind fun t7=>(tree_Up.l0 k x0 (x5++ [(rd_T79 x0 x6).f0]) t7)) else (none)) else (none)) else (none)) else (some x5)) else (some x5)
def tree_Up.f (k:Nat) (l0:List (S79)) (a1:ByteArray):Option (List ByteArray):=(tree_Find.f l0 a1).bind fun t1=>(tree_Up.l0 k l0 ([]:List ByteArray) t1)
theorem tree_Up.mono_l: ∀k,(∀y0 y1 y2,LeO (tree_Up.l0 k y0 y1 y2) (tree_Up.l0 (k+1) y0 y1 y2))
 |0=>fun _ _ _ r h=>by simp [tree_Up.l0] at h
 |k+1=>by
  have ih0:=tree_Up.mono_l k;intro y0 y1 y2;unfold tree_Up.l0
  repeat' with_reducible first|apply ih0|apply LeO.refl|apply LeO.none|apply LeO.ite|refine LeO.bind ?_ fun _=> ?_
theorem tree_Up.mono: ∀a0 a1 k,LeO (tree_Up.f k a0 a1) (tree_Up.f (k+1) a0 a1):=by
 intro a0 a1 k;have ih0:=tree_Up.mono_l k;unfold tree_Up.f
 repeat' with_reducible first|apply ih0|apply LeO.refl|apply LeO.none|apply LeO.ite|refine LeO.bind ?_ fun _=> ?_
set_option maxHeartbeats 8000000 in
set_option maxRecDepth 100000 in
theorem tree_Up.calls (k:Nat) (A0:Option Addr) (c0:Nat) (l0:List (S79)) (a1:ByteArray) (r:List ByteArray) (w:World) (hr0:Kd.C k79 w A0 l0.length l0) (hc0:l0.length≤c0) (h:tree_Up.f k l0 a1=some r):
  Calls Try.prog 153 #[.slice A0 l0.length c0, .string a1] w fun e w'=> ∃v0_:Value,e= .returned (v0_)∧Kd.R Kd.string 9 w' w.heap.size (fun _=>True) v0_ r∧Below w.heap.size w w':=by
 have HR0:=Aside0.mk hr0;have HC0:=Aside0.mk hc0;clear hr0 hc0;have HB:=am_ (Below.refl w.heap.size w);have H:((tree_Find.f l0 a1).bind fun t1=>(tree_Up.l0 k l0 ([]:List ByteArray) t1))=some r:=h;clear h;replace H:=zbd_ H;obtain ⟨t1,A3,H⟩:=H;try dsimp only at H
 have H':=Aside0.mk H;clear H;go_enter Try.func153,Try.ntmps153;go_wp2_with (first|((with_reducible refine gate_callee (f:=91) rfl ?_);refine gl_ (some 9) Try.func91 #[.slice A0 l0.length c0, .string a1] ?_;(with_reducible refine (tree_Find.calls _ _ l0 a1 t1 _ ?side1 ?side2 A3.out).mono ?_);(case side1=>repeat (first|exact HR0.out|(with_reducible refine Kd.C_alloc ?_ _)|(with_reducible refine Kd.C_drewN ?_ _)|(with_reducible refine Kd.C_drew ?_)));(case side2=>exact HC0.out);rintro e w4 ⟨rfl,hb⟩;refine ⟨_,rfl, ?_⟩;replace HB:=am_ (below_step (zl0_ HB) hb);(try clear hb)))
 go_loopg [5,6] k (fun kq v5 v6 w'=> ∃(x5_1:List ByteArray) (x6_1:Int),v6= .int .i64 x6_1∧Aside0 (tree_Up.l0 kq l0 x5_1 x6_1=some r)∧Aside0 (kq≤k)∧Aside0 (Kd.R Kd.string 9 w' w.heap.size (fun _=>True) v5 x5_1)∧Aside0 (Below w.heap.size w w'))
 case atStart=>exact ⟨(([]:List ByteArray)),(t1),rf_,H',⟨Nat.le_refl _⟩,⟨by first|exact Kd.R_nil _ _ _ _ _|exact Kd.N_nil _ _ _ _ _|exact Kd.V_nil _ _ _ _ _|exact Kd.Q_nil _ _ _ _ _|exact Kd.S_nil _ _ _ _ _⟩,⟨zl0_ HB⟩⟩
 case round=>
  clear H';obtain ⟨x5_1,x6_1,rfl,HA,HK1,HO_5,HB⟩:=hrel
  cases gk with
  |zero=>exact absurd HA.out (by simp [tree_Up.l0])
  |succ k1=>
   have H:=HA.out;clear HA;simp only [tree_Up.l0] at H;by_cases c5:x6_1≥0;rotate_left
   ·rw [if_neg c5] at H;have c5b0:decide (0≤x6_1)=false:=decide_eq_false c5;clear c5;obtain rfl:=Option.some.inj H;go_wp2
    go_ret
    exact ⟨_,by first|rfl|(simp [errW_none,errW_some]<;>rfl)|(simp [*,errW_none,errW_some]<;>rfl),zr_ HO_5,zl0_ HB⟩

   rw [if_pos c5] at H;have c5b0:decide (0≤x6_1)=true:=decide_eq_true c5;clear c5;by_cases c6:(x5_1.length:Int)≤(l0.length:Int);rotate_left
   ·rw [if_neg c6] at H;have c6b0:=decide_eq_false c6;have c6b1:decide (x5_1.length≤l0.length)=false:=decide_eq_false (fun h=>c6 (Int.ofNat_le.mpr h));clear c6;obtain rfl:=Option.some.inj H;obtain ⟨Ao14,co14,eo14⟩:=Kd.R_slice HO_5.out;subst eo14;go_wp2
    go_ret
    exact ⟨_,by first|rfl|(simp [errW_none,errW_some]<;>rfl)|(simp [*,errW_none,errW_some]<;>rfl),zr_ HO_5,zl0_ HB⟩
   rw [if_pos c6] at H;have c6b0:=decide_eq_true c6;have c6b1:decide (x5_1.length≤l0.length)=true:=decide_eq_true (Int.ofNat_le.mp c6);clear c6;replace H:=zif_ H;obtain ⟨c7,H⟩:=H;have c7b0:=decide_eq_true c7;clear c7;replace H:=zif_ H;obtain ⟨c8,H⟩:=H;have c8b0:=decide_eq_true c8;clear c8;replace H:=zif_ H;obtain ⟨c9,H⟩:=H;have LMc9:=Aside0.mk c9;clear c9;obtain ⟨y3,hy3⟩: ∃y_:List ByteArray,y_=(x5_1++ [(rd_T79 l0 x6_1).f0]):=⟨_,rfl⟩;(first|replace H:=zsb_ hy3 H|rw [←hy3] at H);have Ny3:=Aside0.mk hy3;clear hy3;replace H:=zbd_ H;obtain ⟨t7,A10,H⟩:=H;try dsimp only at H
   have H':=Aside0.mk H;clear H;obtain ⟨Ao11,co11,eo11⟩:=Kd.R_slice HO_5.out;subst eo11;obtain ⟨p2,q2,ad2,e2,hx2_0,hx2_1,hx2_2,hx2_3,hx2_4,hx2_5,hx2_6,hx2_7,hx2_8,hx2_9,hx2_10,hx2_11⟩:=zat_ (at_T79 HR0.out x6_1);cases e2;replace hx2_0:=zx12_ HB hx2_0 hx2_1 hx2_2 hx2_3 hx2_4 hx2_5 hx2_6 hx2_7 hx2_8 hx2_9 hx2_10 hx2_11;clear hx2_1 hx2_2 hx2_3 hx2_4 hx2_5 hx2_6 hx2_7 hx2_8 hx2_9 hx2_10 hx2_11;obtain ⟨hx2_0,hx2_1,hx2_2,hx2_3,hx2_4,hx2_5,hx2_6,hx2_7,hx2_8,hx2_9,hx2_10,hx2_11⟩:=hx2_0
   go_wp2_with (first|((with_reducible refine gate_builtin (b:= .append) (xs:=#[.tmp 26, .tmp 32]) rfl ?_);(try (refine gate_guard (by rfl) ?_;dsimp only));at_builtin;refine Kd.R_append Kd.string (w0:=w) w.heap.size rfl (.tmp 26) (.tmp 32) 85 9 (.string ⟨#[]⟩) 16 rfl Try.underlying85 info9 rfl (by decide) (by omega) (.slice Ao11 x5_1.length co11) x5_1 ((rd_T79 l0 x6_1).f0) [.string ((rd_T79 l0 x6_1).f0)] (fun _=>True) (fun _=>False) rfl rfl ?aP (fun _ hk=>hk.elim) ?aF ?aO ?aB ?aS ?aL ?_;(case aP=>exact rfl);(case aB=>exact (zl0_ HB));(case aF=>exact (fun _ _=>trivial));(case aO=>exact (zr_ HO_5));(case aS=>exact (below_size (zl0_ HB)));(case aL=>have:=LMc9.out;omega);intro v4 w12 ho hb hg hat;rw [←Ny3.out] at ho;have n0_:=am_ (hb);have n1_:=am_ (ho);clear HB;clear HO_5;have HB:=n0_;have HO5:=n1_;clear n0_ n1_;clear ho hb hg hat;have p6:0≤(x6_1:Int):=of_decide_eq_true zq_;have q6:x6_1<(l0.length:Int):=of_decide_eq_true zq_;obtain ⟨ad6,e6,hx6_0,hx6_1,hx6_2,hx6_3,hx6_4,hx6_5,hx6_6,hx6_7,hx6_8,hx6_9,hx6_10,hx6_11⟩:=at_T79 HR0.out x6_1 p6 q6;obtain rfl:ad2=ad6:=(by injection e6);replace hx6_0:=zx12_ HB hx6_0 hx6_1 hx6_2 hx6_3 hx6_4 hx6_5 hx6_6 hx6_7 hx6_8 hx6_9 hx6_10 hx6_11;clear hx6_1 hx6_2 hx6_3 hx6_4 hx6_5 hx6_6 hx6_7 hx6_8 hx6_9 hx6_10 hx6_11;obtain ⟨hx6_0,hx6_1,hx6_2,hx6_3,hx6_4,hx6_5,hx6_6,hx6_7,hx6_8,hx6_9,hx6_10,hx6_11⟩:=hx6_0;replace p6:=eq_true p6;replace q6:=eq_true q6)|((with_reducible refine gate_callee (f:=91) rfl ?_);refine gl_ (some 25) Try.func91 #[.slice (some ad2) l0.length c0, .string ((rd_T79 l0 x6_1).f1)] ?_;(with_reducible refine (tree_Find.calls _ _ l0 ((rd_T79 l0 x6_1).f1) t7 _ ?side1 ?side2 A10.out).mono ?_);(case side1=>exact zc_ (Kd.C_below HR0.out HB.out));(case side2=>exact HC0.out);rintro e w13 ⟨rfl,hb⟩;refine ⟨_,rfl, ?_⟩;replace HO5:=ob_ HO5 hb;replace HB:=am_ (below_step (zl0_ HB) hb);(try clear hb)))
   go_roundg k1
   case measure=>have:=HK1.out;omega
   case rel=>exact ⟨(y3),(t7),rf_,H',⟨by have:=HK1.out;omega⟩,am_ (zr_ HO5),⟨zl0_ HB⟩⟩
theorem vecAdd1_calls (x y:Int) (W:World):Calls Try.prog 146 #[.int .i64 x, .int .i64 y] W fun e w'=>e= .returned (.int .i64 (wrap64 (x+y)))∧w'=W:=by
 go_enter Try.func146,Try.ntmps146
 go_wp2
 go_ret
 exact ⟨rfl,rfl⟩
def vec_Add.f (l0:List (S37)):Option (Int×Int×Int):=some (vecByF (fun x y=>wrap64 (x+y)) l0 0 0 0)
set_option maxHeartbeats 1000000 in
set_option maxRecDepth 100000 in
theorem vec_Add.calls (A0:Option Addr) (c0:Nat) (l0:List (S37)) (r1:Int) (r2:Int) (r3:Int) (w:World) (hr0:Kd.C k37 w A0 l0.length l0) (hc0:l0.length≤c0) (h:vec_Add.f l0=some (r1,r2,r3)):
  Calls Try.prog 115 #[.slice A0 l0.length c0] w fun e w'=>e= .returned (.agg #[.int .i64 r1, .int .i64 r2, .int .i64 r3])∧Below w.heap.size w w':=by
 have hu37:=Try.underlying37;have hm:l0.length≤maxLen:=hr0.2.1;have HC:=am_ (vecBy_calls 146 (fun x y=>wrap64 (x+y)) (enters_of Try.func146 (by kernel_rfl) rfl) vecAdd1_calls A0 c0 l0 0 0 0 (w.alloc (.cells #[.int .i64 0, .int .i64 0, .int .i64 0] 37)) (Kd.C_below hr0 (below_alloc (Below.refl _ _) _)) hc0 hm);have HH:=Aside0.mk h;clear hr0 h;go_enter Try.func115,Try.ntmps115;go_wp2_with fail
 refine HC.out.mono ?_;rintro e w1 ⟨rfl,hb⟩;have h:=Option.some.inj (show some (vecByF (fun x y=>wrap64 (x+y)) l0 0 0 0)=some (r1,r2,r3) from HH.out);rw [h];have hZ:=blk_below (blk_new w (.cells #[.int .i64 0, .int .i64 0, .int .i64 0] 37)) hb;have HB:=Aside0.mk hb;have HZ:=Aside0.mk hZ;clear h hb hZ;have g0:=zz_ HZ 0;have g1:=zz_ HZ 1;have g2:=zz_ HZ 2;have z0:=blk_frozen HZ.out 0;have z1:=blk_frozen HZ.out 1;have z2:=blk_frozen HZ.out 2;have hs1:w.heap.size<w1.heap.size:=blk_lt HZ.out;go_wp2
 refine bodyPost_ret (results_cell_row rfl _ _ w.heap.size 37 #[.int .i64 r1, .int .i64 r2, .int .i64 r3] (0,0) _ rfl (blk_put (blk_put (blk_put HZ.out 0 _ rfl) 1 _ rfl) 2 _ rfl) Try.underlying37 rfl (by kernel_rfl)) rfl ?_;exact ⟨rfl,below_set (below_set (below_set (below_step (below_alloc (Below.refl _ _) _) HB.out) (Nat.le_refl _)) (Nat.le_refl _)) (Nat.le_refl _)⟩


end Go.Proofs.Ytahidkjncljkaaa.Print

namespace Go.Proofs.Ytahidkjncljkaaa.Print
open Go.RowKit Go.Proofs.YtahidkjncljkaaaW.PrintWords Go.Proofs.YtahidkjncljkaaaW.PrintLast
def Bytes (ns:List Int):Prop:= ∀x∈ns,0≤x∧x≤255
theorem Bytes.rd {ns:List Int} (h:Bytes ns) (i:Int):0≤rd ns i∧rd ns i≤255:=by
 unfold Go.Proofs.YtahidkjncljkaaaW.PrintWords.rd;rw [List.getD_eq_getElem?_getD]
 cases e:ns[i.toNat]? with
 |none=>simp
 |some x=>exact h x (List.mem_of_getElem? e)
def one (c:Int):ByteArray:=strOfNums [c]
structure MadeP (l:List Item):Prop where
 right:RightP l
 len:l.length≤24
 name: ∀x∈l,∃c:Int,97≤c∧c≤120∧x.f0=one c
 ver: ∀x∈l,x.f5=1
 lim: ∀x∈l,∀c:Comp,20≤c.of x.f2∧c.of x.f2≤275
theorem made_nil:MadeP []:=⟨right_nil,by simp,by simp,by simp,by simp⟩
theorem made_ins {l:List Item} (h:MadeP l) {n p:ByteArray} {v:Vec} {c:Int} (hc:97≤c∧c≤120) (hn:n=one c) (hv: ∀c:Comp,20≤c.of v∧c.of v≤275) (hl:l.length<24) (hr:RightP (insL l (newItem n p v))):MadeP (insL l (newItem n p v)) where
  right:=hr
  len:=by rw [len_insL];omega
  name:=fun x hx=>by
    rcases mem_insL.1 hx with rfl|hx
    · exact ⟨c,hc.1,hc.2,hn⟩
    exact h.name x hx
  ver:=fun x hx=>by
    rcases mem_insL.1 hx with rfl|hx
    · rfl
    exact h.ver x hx
  lim:=fun x hx=>by
    rcases mem_insL.1 hx with rfl|hx
    · exact hv
    exact h.lim x hx
theorem made_adm {l:List Item} (h:MadeP l) {n:ByteArray} {v:Vec} (hr:RightP (admL l n v)):MadeP (admL l n v) where
 right:=hr
 len:=by unfold admL;rw [List.length_map];exact h.len
 name:=fun x hx=>by
  obtain ⟨y,hy,rfl⟩:=List.mem_map.1 hx;exact h.name y hy
 ver:=fun x hx=>by
  obtain ⟨y,hy,rfl⟩:=List.mem_map.1 hx;exact h.ver y hy
 lim:=fun x hx=>by
  obtain ⟨y,hy,rfl⟩:=List.mem_map.1 hx;exact h.lim y hy
def MakesFrom (ns:List Int) (i:Int):Prop:= ∀l,MadeP l→ ∃r,Ev (fun k=>law12_Make.l0 k ns l i) r∧MadeP r
theorem tmod_in {a b:Int} (ha:0≤a) (hb:0<b):0≤a.tmod b∧a.tmod b<b:=by
 rw [Int.tmod_eq_emod_of_nonneg ha];exact ⟨Int.emod_nonneg _ (by omega),Int.emod_lt_of_pos _ hb⟩
theorem tdiv_in {a b:Int} (ha:0≤a) (hb:0<b):0≤a.tdiv b∧a.tdiv b≤a:=by
 rw [Int.tdiv_eq_ediv_of_nonneg ha];exact ⟨Int.ediv_nonneg ha (by omega),Int.ediv_le_self _ ha⟩
theorem made_j3 {ns:List Int} (hb:Bytes ns) (hs:ns.length≤1000) {i:Int} (h0:0≤i) (h2:i+2<ns.length) (ih:MakesFrom ns (i+3)) {l:List Item} (h:MadeP l) (hl:l.length<24) (p:ByteArray):
    ∃r,Ev (fun k=>law12_Make.j3 k ns l i p) r∧MadeP r:=by
  have b1:=hb.rd (i+1);have b2:=hb.rd (i+2);have hlen:=h.right.len
  have hnm:(wrap64 (97+(Int.tmod (wrap64 ((l.length:Int)*5)) 24))) % 256=97+((l.length:Int)*5) % 24:=by
    rw [w64 (n:=(l.length:Int)*5) (by omega) (by omega),Int.tmod_eq_emod_of_nonneg (by omega),w64 (by omega) (by omega)];omega
  generalize hc:97+((l.length:Int)*5) % 24=c at hnm;have hcb:97≤c∧c≤120:=by omega
  have hlim:wrap64 (20+wrap64 (rd ns (i+1)))=20+rd ns (i+1):=by rw [w64 (n:=rd ns (i+1)) (by omega) (by omega),w64 (by omega) (by omega)]
  obtain ⟨K,hK⟩:=r10_Create_ev (l:=l) (by omega) (one c) p ⟨20+rd ns (i+1),20+rd ns (i+1),20+rd ns (i+1)⟩;dsimp only at hK;have hw1:wrap64 (i+1)=i+1:=w64 (by omega) (by omega);have hw2:wrap64 (i+2)=i+2:=w64 (by omega) (by omega);have hw3:wrap64 (i+3)=i+3:=w64 (by omega) (by omega);have hr2:wrap64 (rd ns (i+2))=rd ns (i+2):=w64 (by omega) (by omega);by_cases hE:(creR l (one c) p ⟨20+rd ns (i+1),20+rd ns (i+1),20+rd ns (i+1)⟩).2=0;rotate_left
  · obtain ⟨r, ⟨K3, hK3⟩, hM⟩ := ih l h
    dsimp only at hK3
    refine ⟨r,⟨K+K3+1,fun k hk=> ?_⟩,hM⟩
    obtain ⟨k,rfl⟩: ∃m,k=m+1:=⟨k - 1,by omega⟩
    simp only [law12_Make.j3]
    rw [hw1,hw2,hw3,hnm,hlim,if_pos (by omega),if_pos (by omega)]
    rw [show strOfNums [c]=one c from rfl,hK k (by omega)]
    simp only [Option.bind_some]
    rw [if_neg hE]
    exact hK3 k (by omega)
  obtain ⟨e1,hR,hno, -, -, -,hv, -⟩:=creR_right h.right hE;have hm:=made_ins h (p:=p) hcb rfl (v:=⟨20+rd ns (i+1),20+rd ns (i+1),20+rd ns (i+1)⟩) (fun c=>by cases c<;>(simp only [Comp.of];omega)) hl hR;generalize hL:insL l (newItem (one c) p ⟨20+rd ns (i+1),20+rd ns (i+1),20+rd ns (i+1)⟩)=l1 at*;have hl1:0<l1.length:=by rw [←hL,len_insL];omega
  have hd:=tdiv_in (a:=rd ns (i+2)) (b:=16) (by omega) (by omega);have hw4:wrap64 (Int.tdiv (rd ns (i+2)) 16)=Int.tdiv (rd ns (i+2)) 16:=w64 (by omega) (by omega);have hq:=tmod_in (a:=Int.tdiv (rd ns (i+2)) 16) (b:=(l1.length:Int)) hd.1 (by omega);generalize hJ:Int.tmod (Int.tdiv (rd ns (i+2)) 16) (l1.length:Int)=j at*;obtain ⟨v,hv'⟩: ∃v:Vec,v=⟨Int.tmod (rd ns (i+2)) 16,wrap64 (Int.tdiv (Int.tmod (rd ns (i+2)) 16) 2),Int.tmod (Int.tmod (rd ns (i+2)) 16) 3⟩:=⟨_,rfl⟩;obtain ⟨K2,hK2⟩:=r10_Admit_ev hm.right (rd_T79 l1 j).f0 v;dsimp only at hK2
  have main: ∀r,Ev (fun k=>law12_Make.l0 k ns (if (admR l1 (rd_T79 l1 j).f0 v).2=0 then (admR l1 (rd_T79 l1 j).f0 v).1 else l1) (i+3)) r→Ev (fun k=>law12_Make.j3 k ns l i p) r:=by
    rintro r ⟨K3,hK3⟩;refine ⟨K+K2+K3+1,fun k hk=> ?_⟩;dsimp only at hK3;obtain ⟨k,rfl⟩: ∃m,k=m+1:=⟨k - 1,by omega⟩;simp only [law12_Make.j3];rw [hw1,hw2,hw3,hnm,hlim,hr2,if_pos (by omega),if_pos (by omega)];rw [show strOfNums [c]=one c from rfl,hK k (by omega)];simp only [Option.bind_some];rw [if_pos hE,if_pos (by omega),if_pos (by omega),e1,if_neg (by omega),hw4,hJ,if_pos hq.1,if_pos hq.2];have:=hK2 k (by omega)
    rw [hv'] at this;rw [this];simp only [Option.bind_some];rw [←hv'];have:=hK3 k (by omega)
    by_cases q:(admR l1 (rd_T79 l1 j).f0 v).2=0
    · rw [if_pos q] at this ⊢;exact this
    rw [if_neg q] at this ⊢;exact this
  by_cases q:(admR l1 (rd_T79 l1 j).f0 v).2=0;rotate_left
  · rw [if_neg q] at main
    obtain ⟨r,hr,hM⟩:=ih _ hm
    exact ⟨r,main r hr,hM⟩
  rw [if_pos q] at main;obtain ⟨e2,hR2, -⟩:=admR_right hm.right q;rw [e2] at main;obtain ⟨r,hr,hM⟩:=ih _ (made_adm hm hR2);exact ⟨r,main r hr,hM⟩
theorem made_step {ns:List Int} (hb:Bytes ns) (hs:ns.length≤1000) {i:Int} (h0:0≤i) (h2:i+2<ns.length) (ih:MakesFrom ns (i+3)):MakesFrom ns i:=by
  intro l h;have hw2:wrap64 (i+2)=i+2:=w64 (by omega) (by omega);have b0:=hb.rd i;have hr0:wrap64 (rd ns i)=rd ns i:=w64 (by omega) (by omega);by_cases hl:l.length<24;rotate_left
  · refine ⟨l, Ev.step (f := fun k => law12_Make.j1 k ns l i false) (fun k => ?_) (Ev.step (f := fun _ => some l) (fun k => ?_) (Ev.now _)), h⟩
    · simp only [law12_Make.l0]
      rw [hw2,if_pos (by omega),show decide ((l.length:Int)<24)=false from decide_eq_false (by omega)]
    simp only [law12_Make.j1,Bool.false_eq_true,if_false]
  have h3:=made_j3 hb hs h0 h2 ih h hl
  have hj2: ∀b,(b=true→0<l.length)→ ∃r,Ev (fun k=>law12_Make.j2 k ns l i (rd ns i) ⟨#[]⟩ b) r∧MadeP r:=by
    intro b hbl
    cases b with
    | false =>
      obtain ⟨r,hr,hM⟩:=h3 ⟨#[]⟩;refine ⟨r,Ev.step (fun k=> ?_) hr,hM⟩;simp only [law12_Make.j2,Bool.false_eq_true,if_false]
    | true =>
      have hpos:=hbl rfl;have hd:=tdiv_in (a:=rd ns i) (b:=3) (by omega) (by omega);have hw:wrap64 (Int.tdiv (rd ns i) 3)=Int.tdiv (rd ns i) 3:=w64 (by omega) (by omega);have hq:=tmod_in (a:=Int.tdiv (rd ns i) 3) (b:=(l.length:Int)) hd.1 (by omega);obtain ⟨r,hr,hM⟩:=h3 (rd_T79 l (Int.tmod (Int.tdiv (rd ns i) 3) (l.length:Int))).f0;refine ⟨r,Ev.step (fun k=> ?_) hr,hM⟩;simp only [law12_Make.j2,if_true];rw [hw,if_neg (by omega),if_pos hq.1,if_pos hq.2]
  have hj1: ∃r,Ev (fun k=>law12_Make.j1 k ns l i true) r∧MadeP r:=by
    by_cases hpos:0<l.length
    · obtain ⟨r, hr, hM⟩ := hj2 (decide ((Int.tmod (rd ns i) 3) > 0)) (fun _ => hpos)
      refine ⟨r,Ev.step (fun k=> ?_) hr,hM⟩
      simp only [law12_Make.j1,if_true]
      rw [if_pos (by omega),if_pos (by omega),if_pos (by omega),hr0]
    obtain ⟨r,hr,hM⟩:=hj2 false (fun q=>by cases q);refine ⟨r,Ev.step (fun k=> ?_) hr,hM⟩;simp only [law12_Make.j1,if_true];rw [if_pos (by omega),if_pos (by omega),if_neg (by omega),hr0]
  obtain ⟨r,hr,hM⟩:=hj1;refine ⟨r,Ev.step (fun k=> ?_) hr,hM⟩;simp only [law12_Make.l0];rw [hw2,if_pos (by omega),show decide ((l.length:Int)<24)=true from decide_eq_true (by omega)]
theorem made_from {ns:List Int} (hb:Bytes ns) (hs:ns.length≤1000): ∀(d:Nat) (i:Int),0≤i→i≤1003→(ns.length:Int) - i≤d→MakesFrom ns i
  | d, i, h0, h1, hd => by
    by_cases h2:i+2<ns.length
    · cases d with
      |zero=>omega
      |succ d=>exact made_step hb hs h0 h2 (made_from hb hs d (i+3) (by omega) (by omega) (by omega))
    intro l h;have hw2:wrap64 (i+2)=i+2:=w64 (by omega) (by omega);refine ⟨l,Ev.step (f:=fun k=>law12_Make.j1 k ns l i false) (fun k=> ?_) (Ev.step (f:=fun _=>some l) (fun k=> ?_) (Ev.now _)),h⟩
    · simp only [law12_Make.l0]
      rw [hw2,if_neg (by omega)]
    simp only [law12_Make.j1,Bool.false_eq_true,if_false]
theorem made_all {ns:List Int} (hb:Bytes ns) (hs:ns.length≤1000): ∃l,Ev (fun k=>law12_Make.f k ns) l∧MadeP l:=made_from hb hs ns.length 0 (by omega) (by omega) (by omega) [] made_nil
end Go.Proofs.Ytahidkjncljkaaa.Print

namespace Go.Proofs.Ytahidkjncljkaaa.Print
open Go.RowKit Go.Proofs.YtahidkjncljkaaaW.PrintWords Go.Proofs.YtahidkjncljkaaaW.PrintLast Go.Proofs.YtahidkjncljkaaaW.PrintMore
theorem tree_Up_l0 (l:List Item) (hl:l.length<1000000): ∀(m:Nat) (n:ByteArray) (out:List ByteArray),out.length+m=l.length+1→
    Ev (fun k=>tree_Up.l0 k l out (fnd l n)) (out++upGo l m n)
  | 0, n, out, hm => by
    rw [upGo.eq_1,List.append_nil]
    refine Ev.step (f:=fun _=>some out) (fun k=> ?_) (Ev.now _)
    simp only [tree_Up.l0]
    by_cases h:0≤fnd l n
    · rw [if_pos h,if_neg (by omega)]
    rw [if_neg h]
  | m + 1, n, out, hm => by
    cases h:look l n with
    | none =>
      rw [upGo_none h,List.append_nil]
      refine Ev.step (f:=fun _=>some out) (fun k=> ?_) (Ev.now _)
      simp only [tree_Up.l0]
      rw [fnd_none h,if_neg (by omega)]
    | some x =>
      rw [upGo_some h]
      have h0:=fnd_ge.2 ⟨x,h⟩
      have h1:=fnd_lt l n
      obtain ⟨hx,hn⟩:=look_mem h
      refine Ev.step (f:=fun k=>tree_Up.l0 k l (out++ [n]) (fnd l x.f1)) (fun k=> ?_) ?_
      · simp only [tree_Up.l0]
        rw [if_pos h0,if_pos (by omega),if_pos h0,if_pos h1,if_pos (by omega),fnd_rd h,hn,tree_Find_eq]
        rfl
      have:=tree_Up_l0 l hl m x.f1 (out++ [n]) (by simp;omega)
      simpa using this
theorem tree_Up_ev (l:List Item) (n:ByteArray) (hl:l.length<1000000):Ev (fun k=>tree_Up.f k l n) (up l n):=by
 have:=tree_Up_l0 l hl (l.length+1) n [] (by simp)
 rw [List.nil_append] at this;exact this
end Go.Proofs.Ytahidkjncljkaaa.Print

namespace Go.Proofs.Ytahidkjncljkaaa.Print
open Go.RowKit Go.Proofs.YtahidkjncljkaaaW.PrintWords Go.Proofs.YtahidkjncljkaaaW.PrintLast Go.Proofs.YtahidkjncljkaaaW.PrintMore
attribute [local go_sem] max2_int min2_int max_two min_two max_three min_three max_four min_four

def tree_Depth.f (k:Nat) (l0:List (S79)) (a1:ByteArray):Option (Int):=(tree_Up.f k l0 a1).bind fun t1=>(some (t1.length:Int))
theorem tree_Depth.mono: ∀a0 a1 k,LeO (tree_Depth.f k a0 a1) (tree_Depth.f (k+1) a0 a1):=by
 intro a0 a1 k;unfold tree_Depth.f
 repeat' with_reducible first|apply tree_Up.mono|apply LeO.refl|apply LeO.none|apply LeO.ite|refine LeO.bind ?_ fun _=> ?_
set_option maxHeartbeats 8000000 in
set_option maxRecDepth 100000 in
theorem tree_Depth.calls (k:Nat) (A0:Option Addr) (c0:Nat) (l0:List (S79)) (a1:ByteArray) (r:Int) (w:World) (hr0:Kd.C k79 w A0 l0.length l0) (hc0:l0.length≤c0) (h:tree_Depth.f k l0 a1=some r):
  Calls Try.prog 132 #[.slice A0 l0.length c0, .string a1] w fun e w'=>e= .returned (.int .i64 r)∧Below w.heap.size w w':=by
 have HR0:=Aside0.mk hr0;have HC0:=Aside0.mk hc0;clear hr0 hc0;have HB:=am_ (Below.refl w.heap.size w);have H:((tree_Up.f k l0 a1).bind fun t1=>(some (t1.length:Int)))=some r:=h;clear h;replace H:=zbd_ H;obtain ⟨t1,A3,H⟩:=H;try dsimp only at H
 obtain rfl:=Option.some.inj H;go_enter Try.func132,Try.ntmps132;go_wp2_with (first|((with_reducible refine gate_callee (f:=153) rfl ?_);refine gl_ (some 7) Try.func153 #[.slice A0 l0.length c0, .string a1] ?_;(with_reducible refine (tree_Up.calls k _ _ l0 a1 t1 _ ?side1 ?side2 A3.out).mono ?_);(case side1=>repeat (first|exact HR0.out|(with_reducible refine Kd.C_alloc ?_ _)|(with_reducible refine Kd.C_drewN ?_ _)|(with_reducible refine Kd.C_drew ?_)));(case side2=>exact HC0.out);rintro e w4 ⟨v2,rfl,ho0,hb⟩;refine ⟨_,rfl, ?_⟩;have HO3:=am_ (Kd.R_lower ho0 (below_size (zl0_ HB)));replace HB:=am_ (below_step (zl0_ HB) hb);(try clear hb ho0);obtain ⟨Ao5,co5,eo5⟩:=Kd.R_slice HO3.out;subst eo5))
 go_ret
 exact ⟨by first|rfl|(simp [errW_none,errW_some]<;>rfl)|(simp [*,errW_none,errW_some]<;>rfl),zl0_ HB⟩

end Go.Proofs.Ytahidkjncljkaaa.Print

namespace Go.Proofs.Ytahidkjncljkaaa.Print
open Go.RowKit Go.Shelf Go.Sort Go.Proofs.YtahidkjncljkaaaW.PrintWords Go.Proofs.YtahidkjncljkaaaW.PrintLast Go.Proofs.YtahidkjncljkaaaW.PrintMore
theorem depth_calls (l:List Item) (n:ByteArray) (hl:l.length<1000000) (A:Option Addr) (c:Nat) (w:World) (hr:Kd.C k79 w A l.length l) (hc:l.length≤c):
  Calls Try.prog 132 #[.slice A l.length c, .string n] w fun e w'=>e= .returned (.int .i64 (depU l n))∧Below w.heap.size w w':=by
 have h:Ev (fun k=>tree_Depth.f k l n) (depU l n):=Ev.bind (tree_Up_ev l n hl) (Ev.now _)
 obtain ⟨k,hk⟩:=h
 exact tree_Depth.calls k A c l n _ w hr hc (hk k (Nat.le_refl _))
set_option maxHeartbeats 8000000 in
set_option maxRecDepth 100000 in
theorem dropCmp_calls_ (W:World) (gl:Nat) (Al:Option Addr) (cl:Nat) (l:List Item) (hC:Kd.C k79 W Al l.length l) (hcl:l.length≤cl) (hl:l.length<1000000) (hgl:W.heap[gl]?=some (Obj.cells #[.slice Al l.length cl] 46 (0,0))) (x y:ByteArray):
    Calls Try.prog 131 #[.string x, .string y, .pointer (some ⟨gl,0,none⟩)] W fun e w'=>e= .returned (.int .i64 (orI (cmpI (depU l y) (depU l x)) (cmpS x y)))∧Below W.heap.size W w':=by
  have GL:=am_ (blk_drew hgl);have HC:=am_ (Kd.C_below hC (below_drew (Below.refl _ W)));have HCL:=Aside0.mk hcl;have HL:=Aside0.mk hl;have HB:=am_ (below_drew (Below.refl W.heap.size W));clear hgl hC hl;go_enter Try.func131,Try.ntmps131;go_wp2_with fail
  refine start_ (n:=13) (S:=fun w'=>w'.cell? ⟨gl,0,none⟩=some (.slice Al l.length cl)∧True) (ds:=[]) (bt_ 13 0) (by kernel_rfl) rfl rfl ⟨(blk_cell GL.out 0).trans rfl,trivial⟩ (fun hHeld=> ?_);generalize W.drew=w2 at GL HC HB hHeld ⊢;refine tv_ (i:=0) (N:=some 6) (bt_ 13 1) hHeld ?_;refine pv_ (i:=1) (N:=some 7) (bt_ 13 3) ?_;refine tv_ (i:=3) (N:=some 9) (bt_ 13 11) hHeld ?_;refine pv_ (i:=4) (N:=some 10) (bt_ 13 27) ?_;refine pv_ (i:=7) (N:=some 13) (bt_ 13 155) ?_;refine pv_ (i:=8) (N:=some 14) (bt_ 13 411) ?_;refine one_ (i:=2) (N:=some 8) (bt_ 13 415) rfl rfl (by kernel_rfl) (by decide) (fun K hK=> ?_);refine goes_ Try.func132 (by kernel_rfl) rfl #[.slice Al l.length cl, .string y] (by rfl) rfl rfl (by (try simp only [List.map_toArray,List.map_cons,List.map_nil]);rfl) ?_;refine (depth_calls l y HL.out Al cl _ HC.out HCL.out).mono ?_;rintro e w3 ⟨rfl,hb⟩;refine ⟨_,rfl, ?_⟩;have n0_:=am_ (blk_below GL.out hb);have n1_:=am_ (Kd.C_below HC.out hb);have n2_:=am_ (below_step HB.out hb);clear GL HC HB hb;have GL:=n0_;have HC:=n1_;have HB:=n2_;clear n0_ n1_ n2_;refine hK.out _ _ ⟨(blk_cell GL.out 0).trans rfl,trivial⟩ (fun hHeld=> ?_);clear hK K;refine norm_ (a':= ?_) ?_ ?_;rotate_left
  · show Act.put _ (some 8) _ = _
    simp only [Act.put,List.setIfInBounds_toArray,List.set_cons_zero,List.set_cons_succ,i64_w,i32_w]
    rfl
  refine one_ (i:=5) (N:=some 11) (bt_ 13 447) rfl rfl (by kernel_rfl) (by decide) (fun K hK=> ?_);refine goes_ Try.func132 (by kernel_rfl) rfl #[.slice Al l.length cl, .string x] (by rfl) rfl rfl (by (try simp only [List.map_toArray,List.map_cons,List.map_nil]);rfl) ?_;refine (depth_calls l x HL.out Al cl _ HC.out HCL.out).mono ?_;rintro e w4 ⟨rfl,hb⟩;refine ⟨_,rfl, ?_⟩;have n0_:=am_ (blk_below GL.out hb);have n1_:=am_ (Kd.C_below HC.out hb);have n2_:=am_ (below_step HB.out hb);clear GL HC HB hb;have GL:=n0_;have HC:=n1_;have HB:=n2_;clear n0_ n1_ n2_;refine hK.out _ _ ⟨(blk_cell GL.out 0).trans rfl,trivial⟩ (fun hHeld=> ?_);clear hK K;refine norm_ (a':= ?_) ?_ ?_;rotate_left
  · show Act.put _ (some 11) _ = _
    simp only [Act.put,List.setIfInBounds_toArray,List.set_cons_zero,List.set_cons_succ,i64_w,i32_w]
    rfl
  refine one_ (i:=6) (N:=some 12) (bt_ 13 511) rfl rfl (by kernel_rfl) (by decide) (fun K hK=> ?_);refine goes_ Try.func81 (by kernel_rfl) rfl #[.int .i64 (depU l y), .int .i64 (depU l x)] (by rfl) rfl rfl (by (try simp only [List.map_toArray,List.map_cons,List.map_nil]);rfl) ?_;refine (cmpI_calls (depU l y) (depU l x) _).mono ?_;rintro e wq ⟨rfl,hwq⟩;rw [hwq];clear hwq wq;refine ⟨_,rfl, ?_⟩;refine hK.out _ _ ⟨(blk_cell GL.out 0).trans rfl,trivial⟩ (fun hHeld=> ?_);clear hK K;refine norm_ (a':= ?_) ?_ ?_;rotate_left
  · show Act.put _ (some 12) _ = _
    simp only [Act.put,List.setIfInBounds_toArray,List.set_cons_zero,List.set_cons_succ,i64_w,i32_w]
    rfl
  refine one_ (i:=9) (N:=some 15) (bt_ 13 1023) rfl rfl (by kernel_rfl) (by decide) (fun K hK=> ?_);refine goes_ Try.func82 (by kernel_rfl) rfl #[.string x, .string y] (by rfl) rfl rfl (by (try simp only [List.map_toArray,List.map_cons,List.map_nil]);rfl) ?_;refine (cmpS_calls x y _).mono ?_;rintro e wq ⟨rfl,hwq⟩;rw [hwq];clear hwq wq;refine ⟨_,rfl, ?_⟩;refine hK.out _ _ ⟨(blk_cell GL.out 0).trans rfl,trivial⟩ (fun hHeld=> ?_);clear hK K;refine norm_ (a':= ?_) ?_ ?_;rotate_left
  · show Act.put _ (some 15) _ = _
    simp only [Act.put,List.setIfInBounds_toArray,List.set_cons_zero,List.set_cons_succ,i64_w,i32_w]
    rfl
  refine one_ (i:=10) (N:=some 16) (bt_ 13 2047) rfl rfl (by kernel_rfl) (by decide) (fun K hK=> ?_);refine event_step (by rfl) (v:= .slice (some ⟨w4.heap.size,0,none⟩) 2 2) (w1:=w4.alloc (.cells #[.int .i64 (cmpI (depU l y) (depU l x)), .int .i64 (cmpS x y)] 3)) ?hr ?_;(case hr=>first|(go_simp;done)|(go_simp;rfl));have hn:=blk_new w4 (.cells #[.int .i64 (cmpI (depU l y) (depU l x)), .int .i64 (cmpS x y)] 3 (0,0));have hb:=below_alloc (Below.refl w4.heap.size w4) (.cells #[.int .i64 (cmpI (depU l y) (depU l x)), .int .i64 (cmpS x y)] 3);obtain ⟨wA,hwA⟩: ∃wA,wA=w4.alloc (.cells #[.int .i64 (cmpI (depU l y) (depU l x)), .int .i64 (cmpS x y)] 3):=⟨_,rfl⟩;obtain ⟨gs,hgs⟩: ∃gs,gs=w4.heap.size:=⟨_,rfl⟩;rw [←hwA] at hn hb ⊢;rw [←hgs] at hn ⊢;have n0_:=am_ (blk_below GL.out hb);have n2_:=am_ (below_step HB.out hb);have HN:=Aside0.mk hn;clear GL HC HB hb hn hwA hgs;have GL:=n0_;have HB:=n2_;clear n0_ n2_;refine hK.out _ _ ⟨(blk_cell GL.out 0).trans rfl,trivial⟩ (fun hHeld=> ?_);clear hK K;refine norm_ (a':= ?_) ?_ ?_;rotate_left
  · show Act.put _ (some 16) _ = _
    simp only [Act.put,List.setIfInBounds_toArray,List.set_cons_zero,List.set_cons_succ,i64_w,i32_w]
    rfl
  refine one_ (i:=11) (N:=some 17) (bt_ 13 4095) rfl rfl (by kernel_rfl) (by decide) (fun K hK=> ?_);refine goes_ Try.func80 (by kernel_rfl) rfl #[.slice (some ⟨gs,0,none⟩) 2 2] (by rfl) rfl rfl (by (try simp only [List.map_toArray,List.map_cons,List.map_nil]);rfl) ?_;refine (cmpOr_calls gs 2 (cmpI (depU l y) (depU l x)) (cmpS x y) wA ((blk_cell HN.out 0).trans rfl) ((blk_cell HN.out 1).trans rfl)).mono ?_;rintro e wq ⟨rfl,hwq⟩;rw [hwq];clear hwq wq;refine ⟨_,rfl, ?_⟩;refine hK.out _ _ ⟨(blk_cell GL.out 0).trans rfl,trivial⟩ (fun hHeld=> ?_);clear hK K;refine norm_ (a':= ?_) ?_ ?_;rotate_left
  · show Act.put _ (some 17) _ = _
    simp only [Act.put,List.setIfInBounds_toArray,List.set_cons_zero,List.set_cons_succ,i64_w,i32_w]
    rfl
  refine pv_ (i:=12) (N:=some 5) (bt_ 13 8191) ?_;refine done_ (by kernel_rfl) ?_;go_wp2
  go_ret
  exact ⟨rfl,HB.out⟩
def depN (l:List Item) (n:ByteArray):Int:= - depU l n
theorem cmpI_swap (a b:Int):cmpI b a=cmpI (-a) (-b):=by
  unfold cmpI;by_cases h1:b<a
  · rw [if_pos h1,if_pos (by omega)]
  by_cases h2:a<b
  · rw [if_neg h1,if_pos h2,if_neg (by omega),if_pos (by omega)]
  rw [if_neg h1,if_neg h2,if_neg (by omega),if_neg (by omega)]
theorem dropCmp_calls (W:World) (gl:Nat) (Al:Option Addr) (cl:Nat) (l:List Item) (hC:Kd.C k79 W Al l.length l) (hcl:l.length≤cl) (hl:l.length<1000000) (hgl:W.heap[gl]?=some (Obj.cells #[.slice Al l.length cl] 46 (0,0))) (x y:ByteArray):
  Calls Try.prog 131 #[.string x, .string y, .pointer (some ⟨gl,0,none⟩)] W fun e w'=>e= .returned (.int .i64 (cmpW (depN l) x y))∧Below W.heap.size W w':=by
 have h:=dropCmp_calls_ W gl Al cl l hC hcl hl hgl x y;rw [cmpI_swap] at h;exact h
end Go.Proofs.Ytahidkjncljkaaa.Print

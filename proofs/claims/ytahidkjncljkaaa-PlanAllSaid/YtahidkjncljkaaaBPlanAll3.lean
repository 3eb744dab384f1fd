/- PlanAll: a part -/
import Derived.Sort.LotA
import Derived.Shelf.Abstract
import Derived.StillTailTactics
import Derived.RangeFuncNested
import Derived.RangeFuncBound
import Derived.RangeFuncCalls
import Derived.RangeFuncLeaves
import Derived.Shelf.RegionOpen
import Derived.WalkKit
import Derived.OwnWalkIn
import Derived.TacticsInMore
import Derived.LoopNIn
import Derived.LoopIn
import Derived.Sort.Grow
import Derived.Shelf.SlSortCmp.KitK
import Derived.Deep.LoopGhost
import Derived.Laws.Cover1
import Derived.WalkSpells
import Derived.Shelf.GgSortFunc.RowK
import Derived.Test.YtahidkjncljkaaaBPlanAll0
import Derived.Test.YtahidkjncljkaaaBPlanAll1
import Derived.Test.YtahidkjncljkaaaBPlanAll2
set_option linter.unusedVariables false
set_option linter.unusedSimpArgs false
namespace Go.Proofs.Ytahidkjncljkaaa.Print
open Go.Sort
variable {α:Type} [Inhabited α]
def SwapAt (x y n:Nat) (d d':Array α):Prop:=d'.size=d.size∧ ∀k,d'[k]! =if x≤k∧k<x+n then d[k+(y - x)]! else if y≤k∧k<y+n then d[k - (y - x)]! else d[k]!
def RotAt (a m b:Nat) (d d':Array α):Prop:=d'.size=d.size∧ ∀k,d'[k]! =if a≤k∧k<a+(b - m) then d[k+(m - a)]! else if a+(b - m)≤k∧k<b then d[k - (b - m)]! else d[k]!
theorem get_eq (d:Array α) {i j:Nat} (h:i=j):d[i]! =d[j]!:=by rw [h]
theorem swapAt_zero (x y:Nat) (d:Array α):SwapAt x y 0 d d:=⟨rfl,fun k=>by rw [if_neg (by omega),if_neg (by omega)]⟩
theorem swapAt_step {x y n:Nat} {d dc:Array α} (h:SwapAt x y n d dc) (hxy:x+n<y) (hy:y+n<d.size):SwapAt x y (n+1) d (swp dc (x+n) (y+n)):=by
  have hs:=h.1;refine ⟨by rw [swp_size,hs],fun k=> ?_⟩;rw [swp_get dc (by omega) (by omega),h.2,h.2,h.2];by_cases h1:k=y+n
  · rw [if_pos h1, if_neg (by omega), if_neg (by omega), if_neg (by omega), if_pos (by omega)]
    exact get_eq _ (by omega)
  by_cases h2:k=x+n
  · rw [if_neg h1, if_pos h2, if_neg (by omega), if_neg (by omega), if_pos (by omega)]
    exact get_eq _ (by omega)
  rw [if_neg h1,if_neg h2];by_cases h3:x≤k∧k<x+n
  · rw [if_pos h3,if_pos (by omega)]
  rw [if_neg h3];by_cases h4:y≤k∧k<y+n
  · rw [if_pos h4,if_neg (by omega),if_pos (by omega)]
  rw [if_neg h4,if_neg (by omega),if_neg (by omega)]
theorem rot_more {m i j:Nat} {d d1 d2:Array α} (hij:j<i) (him:i≤m) (h:SwapAt (m - i) m j d d1) (h2:RotAt (m - (i - j)) m (m+j) d1 d2):RotAt (m - i) m (m+j) d d2:=by
  refine ⟨by rw [h2.1,h.1],fun k=> ?_⟩;rw [h2.2];by_cases c1:m - (i - j)≤k∧k<m - (i - j)+(m+j - m)
  · rw [if_pos c1, h.2, if_neg (by omega), if_pos (by omega), if_neg (by omega), if_pos (by omega)]
    exact get_eq _ (by omega)
  rw [if_neg c1];by_cases c2:m - (i - j)+(m+j - m)≤k∧k<m+j
  · rw [if_pos c2,h.2,if_neg (by omega),if_neg (by omega),if_neg (by omega),if_pos (by omega)]
  rw [if_neg c2,h.2];by_cases c3:m - i≤k∧k<m - i+j
  · rw [if_pos c3,if_pos (by omega)]
  rw [if_neg c3,if_neg (by omega),if_neg (by omega),if_neg (by omega)]
theorem rot_less {m i j:Nat} {d d1 d2:Array α} (hij:i<j) (him:i≤m) (h:SwapAt (m - i) (m+j - i) i d d1) (h2:RotAt (m - i) m (m+(j - i)) d1 d2):RotAt (m - i) m (m+j) d d2:=by
  refine ⟨by rw [h2.1,h.1],fun k=> ?_⟩;rw [h2.2];by_cases c1:m - i≤k∧k<m - i+(m+(j - i) - m)
  · rw [if_pos c1, h.2]
    by_cases c2:m - i≤k+(m - (m - i))∧k+(m - (m - i))<m - i+i
    · omega
    rw [if_neg c2,if_neg (by omega),if_pos (by omega)]
  rw [if_neg c1];by_cases c2:m - i+(m+(j - i) - m)≤k∧k<m+(j - i)
  · rw [if_pos c2, h.2, if_pos (by omega), if_pos (by omega)]
    exact get_eq _ (by omega)
  rw [if_neg c2,h.2,if_neg (by omega)];by_cases c3:m+j - i≤k∧k<m+j - i+i
  · rw [if_pos c3, if_neg (by omega), if_pos (by omega)]
    exact get_eq _ (by omega)
  rw [if_neg c3,if_neg (by omega),if_neg (by omega)]
theorem rot_same {m i:Nat} {d d':Array α} (him:i≤m) (h:SwapAt (m - i) m i d d'):RotAt (m - i) m (m+i) d d':=by
  refine ⟨h.1,fun k=> ?_⟩;rw [h.2];by_cases c1:m - i≤k∧k<m - i+i
  · rw [if_pos c1,if_pos (by omega)]
  rw [if_neg c1];by_cases c2:m≤k∧k<m+i
  · rw [if_pos c2, if_neg (by omega), if_pos (by omega)]
    exact get_eq _ (by omega)
  rw [if_neg c2,if_neg (by omega),if_neg (by omega)]
theorem rot_left (m e:Nat) (d:Array α):RotAt m m e d d:=⟨rfl,fun k=>by
  by_cases c1:m≤k∧k<m+(e - m)
  · rw [if_pos c1];exact get_eq _ (by omega)
  rw [if_neg c1,if_neg (by omega)]⟩
theorem rot_right (s m:Nat) (d:Array α):RotAt s m m d d:=⟨rfl,fun k=>by
  rw [if_neg (by omega)];by_cases c1:s+(m - m)≤k∧k<m
  · rw [if_pos c1];exact get_eq _ (by omega)
  rw [if_neg c1]⟩
theorem rot_up {a k:Nat} {d dc:Array α} (h:RotAt a (a+1) (k+1) d dc) (hak:a≤k) (hk:k+1<d.size):RotAt a (a+1) (k+2) d (swp dc k (k+1)):=by
  have hs:=h.1
  refine ⟨by rw [swp_size,hs],fun q=> ?_⟩
  rw [swp_get dc (by omega) (by omega),h.2,h.2,h.2]
  by_cases h1:q=k+1
  · rw [if_pos h1, if_neg (by omega), if_pos (by omega), if_neg (by omega), if_pos (by omega)]
    exact get_eq _ (by omega)
  by_cases h2:q=k
  · rw [if_neg h1, if_pos h2, if_neg (by omega), if_neg (by omega), if_pos (by omega)]
    exact get_eq _ (by omega)
  rw [if_neg h1,if_neg h2]
  by_cases h3:a≤q∧q<a+(k+1 - (a+1))
  · rw [if_pos h3,if_pos (by omega)]
  rw [if_neg h3,if_neg (by omega),if_neg (by omega),if_neg (by omega)]
theorem rot_down {k m:Nat} {d dc:Array α} (h:RotAt (k+1) m (m+1) d dc) (hkm:k<m) (hm:m<d.size):RotAt k m (m+1) d (swp dc (k+1) k):=by
  have hs:=h.1
  refine ⟨by rw [swp_size,hs],fun q=> ?_⟩
  rw [swp_get dc (by omega) (by omega),h.2,h.2,h.2]
  by_cases h1:q=k
  · rw [if_pos h1, if_pos (by omega), if_pos (by omega)]
    exact get_eq _ (by omega)
  by_cases h2:q=k+1
  · rw [if_neg h1, if_pos h2, if_neg (by omega), if_neg (by omega), if_neg (by omega), if_pos (by omega)]
    exact get_eq _ (by omega)
  rw [if_neg h1,if_neg h2,if_neg (by omega)]
  by_cases h3:k+1+(m+1 - m)≤q∧q<m+1
  · rw [if_pos h3,if_neg (by omega),if_pos (by omega)]
  rw [if_neg h3,if_neg (by omega),if_neg (by omega)]
theorem rot_src {s m e:Nat} {d d':Array α} (h:RotAt s m e d d') (hsm:s≤m) (hme:m≤e) (k:Nat): ∃q,d'[k]! =d[q]!∧((k<s∧q=k)∨(s≤k∧k<s+(e - m)∧q=k+(m - s))∨(s+(e - m)≤k∧k<e∧q=k - (e - m))∨(e≤k∧q=k)):=by
  rw [h.2]
  by_cases c1:s≤k∧k<s+(e - m)
  · rw [if_pos c1];exact ⟨_,rfl,by omega⟩
  rw [if_neg c1]
  by_cases c2:s+(e - m)≤k∧k<e
  · rw [if_pos c2];exact ⟨_,rfl,by omega⟩
  rw [if_neg c2];exact ⟨_,rfl,by omega⟩
variable {lt:α→α→Bool}
theorem sym_half {a s m e b:Nat} {d d':Array α} (h:RotAt s m e d d') (has:a≤s) (hsm:s≤m) (hme:m≤e) (heb:e≤b) (hA:SortedIn lt a m d) (hB:SortedIn lt m b d)
    (x1: ∀x y,a≤x→x<s→e≤y→y<b→lt d[y]! d[x]! =false) (x2: ∀x y,m≤x→x<e→s≤y→y<m→lt d[y]! d[x]! =false):
    SortedIn lt a s d'∧SortedIn lt s (s+(e - m)) d'∧SortedIn lt (s+(e - m)) e d'∧SortedIn lt e b d'∧ ∀x y,a≤x→x<s+(e - m)→s+(e - m)≤y→y<b→lt d'[y]! d'[x]! =false:=by
  have key:=rot_src h hsm hme
  refine ⟨fun i j h1 h2 h3=> ?_,fun i j h1 h2 h3=> ?_,fun i j h1 h2 h3=> ?_,fun i j h1 h2 h3=> ?_,fun i j h1 h2 h3 h4=> ?_⟩
  all_goals
    obtain ⟨q,eq,cq⟩:=key i
    obtain ⟨r,er,cr⟩:=key j
    rw [eq,er]
  · exact hA q r (by omega) (by omega) (by omega)
  · exact hB q r (by omega) (by omega) (by omega)
  · exact hA q r (by omega) (by omega) (by omega)
  · exact hB q r (by omega) (by omega) (by omega)
  rcases cq with cq|cq|cq|cq<;>rcases cr with cr|cr|cr|cr<;>first
    |(exfalso;omega)
    |exact hA q r (by omega) (by omega) (by omega)
    |exact hB q r (by omega) (by omega) (by omega)
    |exact x1 q r (by omega) (by omega) (by omega) (by omega)
    |exact x2 q r (by omega) (by omega) (by omega) (by omega)
theorem sym_x1 (hS:SWO lt) {a s m e b:Nat} {d:Array α} (hA:SortedIn lt a m d) (hB:SortedIn lt m b d) (hsm:s≤m) (hme:m≤e) (h:a<s→e<b→lt d[e]! d[s - 1]! =false): ∀x y,a≤x→x<s→e≤y→y<b→lt d[y]! d[x]! =false:=by
  intro x y h1 h2 h3 h4
  have k:=h (by omega) (by omega)
  have k1:lt d[e]! d[x]! =false:=by
    by_cases q:x=s - 1
    · rw [q];exact k
    exact hS.ntrans _ _ _ k (hA x (s - 1) h1 (by omega) (by omega))
  by_cases q:y=e
  · rw [q];exact k1
  exact hS.ntrans _ _ _ (hB e y (by omega) (by omega) h4) k1
theorem sym_x2 (hS:SWO lt) {a s m e b:Nat} {d:Array α} (hA:SortedIn lt a m d) (hB:SortedIn lt m b d) (has:a≤s) (heb:e≤b) (h:m<e→s<m→lt d[s]! d[e - 1]! =false): ∀x y,m≤x→x<e→s≤y→y<m→lt d[y]! d[x]! =false:=by
  intro x y h1 h2 h3 h4;have k:=h (by omega) (by omega)
  have k1:lt d[s]! d[x]! =false:=by
    by_cases q:x=e - 1
    · rw [q];exact k
    exact hS.ntrans _ _ _ k (hB x (e - 1) h1 (by omega) (by omega))
  by_cases q:y=s
  · rw [q];exact k1
  exact hS.ntrans _ _ _ (hA s y has (by omega) h4) k1
theorem sym_join {a mid b:Nat} {d d1 d2:Array α} (ham:a≤mid) (hmb:mid≤b) (hb:b≤d.size) (hx: ∀x y,a≤x→x<mid→mid≤y→y<b→lt d[y]! d[x]! =false)
    (p1:PermIn a mid d d1) (s1:SortedIn lt a mid d1) (p2:PermIn mid b d1 d2) (s2:SortedIn lt mid b d2):SortedIn lt a b d2∧PermIn a b d d2:=by
  have k1: ∀x,a≤x→x<mid→ ∀y,mid≤y→y<b→lt d1[y]! d1[x]! =false:=by
    have q:=permIn_all d d1 a mid (fun v=> ∀y,mid≤y→y<b→lt d[y]! v=false) (by omega) p1 (fun i h1 h2 y h3 h4=>hx i y h1 h2 h3 h4)
    intro x h1 h2 y h3 h4
    rw [p1.2.1 y (by omega)]
    exact q x h1 h2 y h3 h4
  have k2: ∀y,mid≤y→y<b→ ∀x,a≤x→x<mid→lt d2[y]! d2[x]! =false:=by
    have q:=permIn_all d1 d2 mid b (fun v=> ∀x,a≤x→x<mid→lt v d1[x]! =false) (by rw [p1.1];exact hb) p2 (fun i h1 h2 x h3 h4=>k1 x h3 h4 i h1 h2)
    intro y h1 h2 x h3 h4
    rw [p2.2.1 x (by omega)]
    exact q y h1 h2 x h3 h4
  refine ⟨fun i j h1 h2 h3=> ?_,permIn_trans _ _ _ _ _ (permIn_mono d d1 a mid a b (Nat.le_refl _) hmb hb p1) (permIn_mono d1 d2 mid b a b ham (Nat.le_refl _) (by rw [p1.1];exact hb) p2)⟩
  by_cases c1:j<mid
  · rw [p2.2.1 i (by omega), p2.2.1 j (by omega)]
    exact s1 i j h1 h2 c1
  by_cases c2:i<mid
  · exact k2 j (by omega) h3 i h1 c2
  exact s2 i j (by omega) h2 h3
theorem ins_left (hS:SWO lt) {a i b:Nat} {d d':Array α} (h:RotAt a (a+1) i d d') (hai:a+1≤i) (hib:i≤b) (hB:SortedIn lt (a+1) b d) (l: ∀c,a+1≤c→c<i→lt d[c]! d[a]! =true) (g: ∀c,i≤c→c<b→lt d[c]! d[a]! =false):SortedIn lt a b d':=by
  have key:=rot_src h (by omega) hai
  intro x y h1 h2 h3
  obtain ⟨q,eq,cq⟩:=key x
  obtain ⟨r,er,cr⟩:=key y
  rw [eq,er]
  by_cases cx:q=a
  · rw [cx]
    exact g r (by omega) (by omega)
  by_cases cy:r=a
  · rw [cy]
    exact hS.asymmA (l q (by omega) (by omega))
  exact hB q r (by omega) (by omega) (by omega)
theorem ins_right_ (hS:SWO lt) {a i m:Nat} {d d':Array α} (h:RotAt i m (m+1) d d') (hai:a≤i) (him:i≤m) (hA:SortedIn lt a m d) (l: ∀c,a≤c→c<i→lt d[m]! d[c]! =false) (g: ∀c,i≤c→c<m→lt d[m]! d[c]! =true):SortedIn lt a (m+1) d':=by
  have key:=rot_src h him (by omega)
  intro x y h1 h2 h3
  obtain ⟨q,eq,cq⟩:=key x
  obtain ⟨r,er,cr⟩:=key y
  rw [eq,er]
  by_cases cx:q=m
  · rw [cx]
    exact hS.asymmA (g r (by omega) (by omega))
  by_cases cy:r=m
  · rw [cy]
    exact l q (by omega) (by omega)
  exact hA q r (by omega) (by omega) (by omega)
theorem sorted_le (hS:SWO lt) {a b:Nat} {d:Array α} (h:SortedIn lt a b d) {x y:Nat} (h1:a≤x) (h2:x≤y) (h3:y<b):lt d[y]! d[x]! =false:=by
  by_cases q:x=y
  · rw [q];exact hS.irrefl _
  exact h x y h1 (by omega) h3
theorem lt_le_lt {β:Type} {lt:β→β→Bool} (hS:SWO lt) {x y z:β} (h1:lt x y=true) (h2:lt z y=false):lt x z=true:=by
 cases h:lt x z with
 |true=>rfl
 |false=>rw [hS.ntrans _ _ _ h h2] at h1;cases h1
theorem le_lt_lt {β:Type} {lt:β→β→Bool} (hS:SWO lt) {x y z:β} (h1:lt y x=false) (h2:lt y z=true):lt x z=true:=by
 cases h:lt x z with
 |true=>rfl
 |false=>rw [hS.ntrans _ _ _ h1 h] at h2;cases h2
theorem left_lt (hS:SWO lt) {a m i b:Nat} {d:Array α} (hB:SortedIn lt m b d) (hib:i≤b) (h:i=m∨lt d[i - 1]! d[a]! =true): ∀c,m≤c→c<i→lt d[c]! d[a]! =true:=by
  intro c h1 h2
  rcases h with h|h
  · omega
  exact le_lt_lt hS (sorted_le hS hB h1 (by omega:c≤i - 1) (by omega)) h
theorem left_ge (hS:SWO lt) {a m i b:Nat} {d:Array α} (hB:SortedIn lt m b d) (hmi:m≤i) (h:i=b∨lt d[i]! d[a]! =false): ∀c,i≤c→c<b→lt d[c]! d[a]! =false:=by
  intro c h1 h2
  rcases h with h|h
  · omega
  exact hS.ntrans _ _ _ (sorted_le hS hB hmi h1 h2) h
theorem right_le (hS:SWO lt) {a m i:Nat} {d:Array α} (hA:SortedIn lt a m d) (him:i≤m) (h:i=a∨lt d[m]! d[i - 1]! =false): ∀c,a≤c→c<i→lt d[m]! d[c]! =false:=by
  intro c h1 h2
  rcases h with h|h
  · omega
  exact hS.ntrans _ _ _ h (sorted_le hS hA h1 (by omega:c≤i - 1) (by omega))
theorem right_gt (hS:SWO lt) {a m i:Nat} {d:Array α} (hA:SortedIn lt a m d) (hai:a≤i) (h:i=m∨lt d[m]! d[i]! =true): ∀c,i≤c→c<m→lt d[m]! d[c]! =true:=by
  intro c h1 h2
  rcases h with h|h
  · omega
  exact lt_le_lt hS h (sorted_le hS hA hai h1 h2)
structure Turned_ (lt:α→α→Bool) (a s mid e b:Nat) (d d1:Array α):Prop where
 perm:PermIn a b d d1
 s1:SortedIn lt a s d1
 s2:SortedIn lt s mid d1
 s3:SortedIn lt mid e d1
 s4:SortedIn lt e b d1
 x: ∀x y,a≤x→x<mid→mid≤y→y<b→lt d1[y]! d1[x]! =false
theorem turned_of (hS:SWO lt) {a s m mid e b:Nat} {d d1:Array α} (hp:PermIn a b d d1) (h:RotAt s m e d d1) (has:a≤s) (hsm:s≤m) (hme:m≤e) (heb:e≤b) (he:s+(e - m)=mid) (hA:SortedIn lt a m d) (hB:SortedIn lt m b d)
    (l:(s=a∨e=b)∨lt d[e]! d[s - 1]! =false) (g:(s=m∨e=m)∨lt d[e - 1]! d[s]! =true):Turned_ lt a s mid e b d d1:=by
  obtain ⟨a1,a2,a3,a4,a5⟩:=sym_half h has hsm hme heb hA hB
    (sym_x1 hS hA hB hsm hme (fun h1 h2=>by
      rcases l with l|l
      · omega
      exact l))
    (sym_x2 hS hA hB has heb (fun h1 h2=>by
      rcases g with g|g
      · omega
      exact hS.asymmA g))
  rw [he] at a2 a3 a5;exact ⟨hp,a1,a2,a3,a4,a5⟩
theorem sorted_whole {a s mid:Nat} {d:Array α} (h1:SortedIn lt a s d) (h2:SortedIn lt s mid d) (h: ¬(a<s∧s<mid)):SortedIn lt a mid d:=by
  intro i j k1 k2 k3;by_cases q:a<s
  · exact h1 i j k1 k2 (by omega)
  exact h2 i j (by omega) k2 k3
def Blocks (lt:α→α→Bool) (s n:Nat) (d:Array α):Prop:= ∀c,SortedIn lt (c*s) (min (c*s+s) n) d
def Mixed (lt:α→α→Bool) (s n t:Nat) (d:Array α):Prop:=(∀c,c<t→SortedIn lt (c*(2*s)) (min (c*(2*s)+2*s) n) d)∧ ∀c,2*t≤c→SortedIn lt (c*s) (min (c*s+s) n) d
theorem mixed_zero {s n:Nat} {d:Array α} (h:Blocks lt s n d):Mixed lt s n 0 d:=⟨fun c hc=>by omega,fun c _=>h c⟩
theorem sorted_congr {a b:Nat} {d d':Array α} (h:SortedIn lt a b d) (he: ∀k,a≤k→k<b→d'[k]! =d[k]!):SortedIn lt a b d':=fun i j h1 h2 h3=>by rw [he i h1 (by omega),he j (by omega) h3];exact h i j h1 h2 h3
theorem mul2 (t s:Nat):2*t*s=t*(2*s):=by rw [Nat.mul_comm 2 t,Nat.mul_assoc]
theorem mixed_step {s n t:Nat} {d d':Array α} (h:Mixed lt s n t d) (hp:PermIn (t*(2*s)) (min (t*(2*s)+2*s) n) d d') (hs:SortedIn lt (t*(2*s)) (min (t*(2*s)+2*s) n) d'):Mixed lt s n (t+1) d':=by
  refine ⟨fun c hc=> ?_,fun c hc=> ?_⟩;rotate_left
  · have h1 : (2 * (t + 1)) * s ≤ c * s := Nat.mul_le_mul_right _ hc
    rw [mul2,Nat.add_mul,Nat.one_mul] at h1
    exact sorted_congr (h.2 c (by omega)) (fun k h2 _=>hp.2.1 k (.inr (by omega)))
  by_cases e:c=t
  · rw [e];exact hs
  have h1:(c+1)*(2*s)≤t*(2*s):=Nat.mul_le_mul_right _ (by omega);rw [Nat.add_mul,Nat.one_mul] at h1;exact sorted_congr (h.1 c (by omega)) (fun k _ h3=>hp.2.1 k (.inl (by omega)))
theorem mixed_at {s n t:Nat} {d:Array α} (h:Mixed lt s n t d):SortedIn lt (t*(2*s)) (min (t*(2*s)+s) n) d∧SortedIn lt (t*(2*s)+s) (min (t*(2*s)+2*s) n) d:=by
 have h1:=h.2 (2*t) (Nat.le_refl _);have h2:=h.2 (2*t+1) (by omega);rw [Nat.add_mul,Nat.one_mul,mul2] at h2;rw [mul2] at h1;refine ⟨h1, ?_⟩;rw [show t*(2*s)+2*s=t*(2*s)+s+s by omega];exact h2
theorem mixed_end {s n t:Nat} {d:Array α} (h:Mixed lt s n t d) (he:n≤t*(2*s)+s):Blocks lt (2*s) n d:=by
  intro c
  by_cases hc:c<t
  · exact h.1 c hc
  have h1:t*(2*s)≤c*(2*s):=Nat.mul_le_mul_right _ (by omega)
  by_cases e:c=t
  · rw [e]
    intro i j a1 a2 a3
    exact (mixed_at h).1 i j a1 a2 (by omega)
  have h2:(t+1)*(2*s)≤c*(2*s):=Nat.mul_le_mul_right _ (by omega)
  rw [Nat.add_mul,Nat.one_mul] at h2
  intro i j a1 a2 a3
  omega
theorem mixed_last {s n t:Nat} {d:Array α} (h:Mixed lt s n (t+1) d) (he:n≤t*(2*s)+2*s):Blocks lt (2*s) n d:=by
  intro c;by_cases hc:c<t+1
  · exact h.1 c hc
  have h2:(t+1)*(2*s)≤c*(2*s):=Nat.mul_le_mul_right _ (by omega);rw [Nat.add_mul,Nat.one_mul] at h2;intro i j a1 a2 a3
  omega
theorem blocks_all {s n:Nat} {d:Array α} (h:Blocks lt s n d) (hs:n≤s):SortedIn lt 0 n d:=by
 have q:=h 0;rw [Nat.zero_mul,Nat.zero_add,Nat.min_eq_right hs] at q;exact q
def Upto (lt:α→α→Bool) (s n t:Nat) (d:Array α):Prop:= ∀c,c<t→SortedIn lt (c*s) (min (c*s+s) n) d
theorem upto_step {s n t:Nat} {d d':Array α} (h:Upto lt s n t d) (hp:PermIn (t*s) (min (t*s+s) n) d d') (hs:SortedIn lt (t*s) (min (t*s+s) n) d'):Upto lt s n (t+1) d':=by
  intro c hc;by_cases e:c=t
  · rw [e];exact hs
  have h1:(c+1)*s≤t*s:=Nat.mul_le_mul_right _ (by omega);rw [Nat.add_mul,Nat.one_mul] at h1;exact sorted_congr (h c (by omega)) (fun k _ h3=>hp.2.1 k (.inl (by omega)))
theorem upto_all {s n t:Nat} {d:Array α} (h:Upto lt s n t d) (hn:n≤t*s):Blocks lt s n d:=by
  intro c;by_cases hc:c<t
  · exact h c hc
  have h1:t*s≤c*s:=Nat.mul_le_mul_right _ (by omega);intro i j a1 a2 a3
  omega
theorem part_perm {a b n:Nat} {d0 d d':Array α} (h0:PermIn 0 n d0 d) (hp:PermIn a b d d') (hb:b≤n) (hn:n≤d.size):PermIn 0 n d0 d':=permIn_trans _ _ _ _ _ h0 (permIn_mono d d' a b 0 n (Nat.zero_le _) hb hn hp)
end Go.Proofs.Ytahidkjncljkaaa.Print

namespace Go.Proofs.Ytahidkjncljkaaa.Print
open Go.RowKit Go.Proofs.YtahidkjncljkaaaW.PrintWords Go.Proofs.YtahidkjncljkaaaW.PrintLast Go.Proofs.YtahidkjncljkaaaW.PrintMore
section
variable {P:Program} {ops:Array Oper} {rest:List Oper} {o:Oper} {a:Act} {Q:Exit→Act→World→Prop} {Kc:Act→World→Prop} {W:World}
theorem store_part_step {gb e:Nat} {zs:Array Value} (hh:W.heap[gb]?=some (.cells zs e (0,0))) (hw:Region.wanted o (yielded ops a.tmps)=true) (t:TypeId) (p x:Operand) (ho:o.op= .store t p x) (hN:o.dst=none) (off:Nat) (u:Value) (seg new:List Value)
  (hp:a.eval p= .pointer (some ⟨gb,off,none⟩)) (hx:a.eval x=u) (hu:u.cells.toList=seg) (ht:(P.info? t).map (·.size)=some seg.length) (hz:off+seg.length≤zs.size) (h1: ∀q∈seg,q.oneCell'=true) (hnew:zs.toList.take off++seg++zs.toList.drop (off+seg.length)=new)
  (h: ∀w',w'.heap[gb]?=some (.cells new.toArray e (0,0))→W.grownBy w' (some gb)→Kc a w'):if Region.wanted o (yielded ops a.tmps)=true then Oper.wp P o a W Kc Q else Kc (a.put none undef) W:=by
 obtain ⟨w',cur,hrun,hc,hs,hl,hg⟩:=put_run (P:=P) hh t u off seg hu ht hz h1
 have e1:cur=new.toArray:=by
  apply Array.ext'
  rw [hl,hnew]
 subst e1
 rw [if_pos hw]
 unfold Oper.wp execOp
 simp only [ho,hp,hx,Sem.run_bind,Sem.run_pure,Result.andThen_ok,hrun]
 show Kc (a.put o.dst undef) _
 rw [hN]
 exact h _ hc hg
end
theorem blk_put_other2 {w w1:World} {row:Option Nat} {k:Nat} {ob:Obj} (h:w.heap[k]?=some ob) (hg:w.grownBy w1 row) (hne:some k≠row):w1.heap[k]?=some ob:=by
  rw [hg.block k (by
    rcases Nat.lt_or_ge k w.heap.size with hl|hl
    · exact hl
    rw [Array.getElem?_eq_none hl] at h;cases h) hne]
  exact h
def KeepS (b:Nat) (W w:World):Prop:=(∀g ob,W.heap[g]?=some ob→g≠b→(∀cs,ob≠ .cells cs 76 (0,0))→w.heap[g]?=some ob)∧W.heap.size≤w.heap.size
theorem keepS_refl (b:Nat) (W:World):KeepS b W W:=⟨fun _ _ h _ _=>h,Nat.le_refl _⟩
theorem keepS_below {b:Nat} {W w w1:World} (h:KeepS b W w) (hb:Below w.heap.size w w1):KeepS b W w1:=⟨fun g ob hg hn ht=>blk_below (h.1 g ob hg hn ht) hb,Nat.le_trans h.2 hb.size⟩
theorem keepS_put {b:Nat} {W w w1:World} (h:KeepS b W w) (hg:w.grownBy w1 (some b)):KeepS b W w1:=⟨fun k ob hk hn ht=>blk_put_other (h.1 k ob hk hn ht) hg hn,Nat.le_trans h.2 hg.size⟩
theorem keepS_row {b:Nat} {W w w1:World} {row:Option Nat} (h:KeepS b W w) (hg:w.grownBy w1 row) (ho: ∀k,row=some k→ ∃cells,w.heap[k]?=some (.cells cells 76 (0,0))):KeepS b W w1:=
 ⟨fun k ob hk hn ht=>by
  have q:=h.1 k ob hk hn ht;refine blk_put_other2 q hg (fun e=> ?_);obtain ⟨cs,hc⟩:=ho k e.symm;rw [q] at hc;exact ht cs (Option.some.inj hc),Nat.le_trans h.2 hg.size⟩
theorem R_keepS {α:Type} {d:Kd α} {e b base tb:Nat} {cs:Array Value} {W w:World} {v:Value} {xs:List α} (h:d.R e W base (fun _=>True) v xs) (hb:W.heap[b]?=some (.cells cs tb (0,0))) (ht: ∀q,q∈e::d.E→q≠tb∧q≠76) (hk:KeepS b W w):d.R e w base (fun _=>True) v xs:=
 Kd.R_mono (Kd.R_step (Kd.R_bound h) (fun k hk' _=>by
  obtain ⟨_,_,_,q,hq,cells,hc⟩:=hk'
  rw [hk.1 k _ hc (fun e=>by
   rw [e,hb] at hc
   injection hc with hc
   injection hc with _ h2 _
   exact (ht q hq).1 h2.symm) (fun cs' e=>by
   injection e with _ h2 _
   exact (ht q hq).2 h2),hc])) (fun _ _=>trivial)
def stepCells (s:S76):Array Value:=#[.int .i64 s.f0, .string s.f1, .string s.f2, .int .i64 s.f3.f0, .int .i64 s.f3.f1, .int .i64 s.f3.f2]
set_option maxHeartbeats 4000000 in
set_option maxRecDepth 100000 in
theorem planPut_calls (w W:World) (b:Nat) (vg vo:Value) (wd:Bool) (out:List S76) (s:S76)
    (hb:W.heap[b]?=some (.cells #[vg, .bool wd,vo] 139 (0,0))) (hge:w.heap.size≤b) (hB:Below w.heap.size w W) (ho:Kd.R k76 76 W w.heap.size (fun _=>True) vo out) (hl:out.length<100000):
    Calls Try.prog 126 #[.pointer (some ⟨b,0,none⟩), .agg (stepCells s)] W fun e w'=>e= .returned (.tuple #[])∧ ∃vo',w'.heap[b]?=some (.cells #[vg, .bool wd,vo'] 139 (0,0))∧Kd.R k76 76 w' w.heap.size (fun _=>True) vo' (out++ [s])∧Below w.heap.size w w'∧KeepS b W w':=by
  unfold stepCells;have hu139:=Try.underlying139;have hu76:=Try.underlying76;have BK:=Aside0.mk hb;have GE:=Aside0.mk hge;have HB:=Aside0.mk hB;have HO:=Aside0.mk ho;have HL:=Aside0.mk hl;have KP:=am_ (keepS_refl b W);obtain ⟨Ao,co,eo⟩:=Kd.R_slice ho;subst eo;clear hb hge hB ho hl;go_enter Try.func126,Try.ntmps126;go_wp2_with (first|((with_reducible refine gate_dst (N:=3) rfl ?_);refine bx_ (N:=3) (cs:=#[.int .i64 s.f0, .string s.f1, .string s.f2, .int .i64 s.f3.f0, .int .i64 s.f3.f1, .int .i64 s.f3.f2]) (t:=76) ?_;intro gb3 hg w3 hbox hb;have OLD3:=am_ (show∀k,(Value.slice Ao out.length co).ownBlock=some k→k<gb3 from fun k hk=>by rw [hg];exact Kd.R_lt HO.out k hk);have KP1:=am_ (keepS_below KP.out hb);clear KP;have KP:=KP1;clear KP1;replace HO:=am_ (Kd.R_below HO.out hb);replace BK:=am_ (blk_below BK.out hb);have BK3:=am_ (hbox);have GE3:=am_ ((by rw [hg];exact below_size HB.out:w.heap.size≤gb3));replace HB:=am_ (below_step HB.out hb);have EQ3:=am_ (hg);clear hb hbox hg))
  have NEO:=am_ (show some b≠(Value.slice Ao out.length co).ownBlock from Kd.R_ne HO.out BK.out (by decide));have NEO3:=am_ (show some gb3≠(Value.slice Ao out.length co).ownBlock from fun e=>by have:=OLD3.out gb3 e.symm;omega);replace HO:=am_ (Kd.R_drew HO.out);replace BK:=am_ (blk_drew BK.out);replace BK3:=am_ (blk_drew BK3.out);replace HB:=am_ (below_drew1 HB.out);replace KP:=am_ (keepS_below KP.out (below_drew1 (Below.refl _ _)));refine start_ (n:=11) (S:=fun w'=>w'.cell? ⟨b,2,none⟩=some (.slice Ao out.length co)∧w'.cell? ⟨gb3,0,none⟩=some (.int .i64 s.f0)∧w'.cell? ⟨gb3,1,none⟩=some (.string s.f1)∧w'.cell? ⟨gb3,2,none⟩=some (.string s.f2)∧w'.cell? ⟨gb3,3,none⟩=some (.int .i64 s.f3.f0)∧w'.cell? ⟨gb3,4,none⟩=some (.int .i64 s.f3.f1)∧w'.cell? ⟨gb3,5,none⟩=some (.int .i64 s.f3.f2)) (ds:=[10]) (bs_ 11 0) (by kernel_rfl) rfl rfl ⟨(blk_cell BK.out 2).trans rfl,(blk_cell BK3.out 0).trans rfl,(blk_cell BK3.out 1).trans rfl,(blk_cell BK3.out 2).trans rfl,(blk_cell BK3.out 3).trans rfl,(blk_cell BK3.out 4).trans rfl,(blk_cell BK3.out 5).trans rfl⟩ (fun hHeld=> ?_);generalize w3.drew=w5 at HO BK BK3 HB KP hHeld ⊢;refine pv_ (i:=0) (N:=some 4) (bs_ 11 1) ?_;refine pv_ (i:=1) (N:=some 5) (bs_ 11 2) ?_;refine pv_ (i:=2) (N:=some 6) (bs_ 11 3) ?_;refine pv_ (i:=3) (N:=some 7) (bs_ 11 4) ?_;refine tv_ (i:=4) (N:=some 8) (bs_ 11 5) hHeld ?_;refine tv_ (i:=5) (N:=some 9) (bs_ 11 6) hHeld ?_;refine one_ (i:=6) (N:=some 10) (bs_ 11 7) rfl rfl (by kernel_rfl) (by decide) (fun K hK=> ?_)
  refine value_ (w1:= ?_) (v:= ?_) (by rfl) rfl ?_ ?_
  rotate_left 2
  · go_simp
    constructor
    · rfl
    rfl
  refine hK.out _ _ ⟨(World.cell?_alloc_lt _ _ _ (World.block_lt_of_cell? _ _ (((blk_cell BK.out 2).trans rfl)))).trans (((blk_cell BK.out 2).trans rfl)),(World.cell?_alloc_lt _ _ _ (World.block_lt_of_cell? _ _ (((blk_cell BK3.out 0).trans rfl)))).trans (((blk_cell BK3.out 0).trans rfl)),(World.cell?_alloc_lt _ _ _ (World.block_lt_of_cell? _ _ (((blk_cell BK3.out 1).trans rfl)))).trans (((blk_cell BK3.out 1).trans rfl)),(World.cell?_alloc_lt _ _ _ (World.block_lt_of_cell? _ _ (((blk_cell BK3.out 2).trans rfl)))).trans (((blk_cell BK3.out 2).trans rfl)),(World.cell?_alloc_lt _ _ _ (World.block_lt_of_cell? _ _ (((blk_cell BK3.out 3).trans rfl)))).trans (((blk_cell BK3.out 3).trans rfl)),(World.cell?_alloc_lt _ _ _ (World.block_lt_of_cell? _ _ (((blk_cell BK3.out 4).trans rfl)))).trans (((blk_cell BK3.out 4).trans rfl)),(World.cell?_alloc_lt _ _ _ (World.block_lt_of_cell? _ _ (((blk_cell BK3.out 5).trans rfl)))).trans (((blk_cell BK3.out 5).trans rfl))⟩ (fun hHeld=> ?_);clear hK K;refine norm_ (a':= ?_) ?_ ?_;rotate_left
  · show Act.put _ (some 10) _ = _
    simp only [Act.put,List.setIfInBounds_toArray,List.set_cons_zero,List.set_cons_succ,i64_w,i32_w]
    rfl
  refine one_ (i:=7) (N:=some 11) (bs_ 11 8) rfl rfl (by kernel_rfl) (by decide) (fun K hK=> ?_);refine Kd.R_append_step k76 (w0:=w) w.heap.size (by rfl) (.tmp 8) (.tmp 10) 49 76 (.agg #[(.int .i64 0),(.string ⟨#[]⟩),(.string ⟨#[]⟩),(.int .i64 0),(.int .i64 0),(.int .i64 0)]) 64 rfl Try.underlying49 info76 rfl (by decide) (by omega) _ out s [.int .i64 s.f0, .string s.f1, .string s.f2, .int .i64 s.f3.f0, .int .i64 s.f3.f1, .int .i64 s.f3.f2] (fun _=>True) (fun _=>False) rfl rfl ?aP (fun _ hk=>hk.elim) (fun _ _=>trivial) HO.out HB.out (below_size HB.out) (by have:=HL.out;omega) ?_;(case aP=>exact k76_mkM _ _ _ s);intro v1 w6 ho hb hg hat;replace hg:w5.grownBy w6 (Value.slice Ao out.length co).ownBlock:=hg;have KPA:=am_ (keepS_row KP.out hg (fun k hk=>by obtain ⟨inner,h⟩:=Kd.R_own HO.out;exact own_typed h k hk));have n0_:=am_ (blk_put_other2 BK.out hg NEO.out);have n1_:=am_ (blk_put_other2 BK3.out hg NEO3.out);have n2_:=Aside0.mk ho;have n3_:=Aside0.mk hb;clear BK BK3 HO HB KP ho hb hat;have BK:=n0_;have BK3:=n1_;have HO:=n2_;have HB:=n3_;clear n0_ n1_ n2_ n3_;obtain ⟨A1,c1,e1⟩:=Kd.R_slice HO.out;subst e1;refine hK.out _ _ ⟨(blk_cell BK.out 2).trans rfl,(blk_cell BK3.out 0).trans rfl,(blk_cell BK3.out 1).trans rfl,(blk_cell BK3.out 2).trans rfl,(blk_cell BK3.out 3).trans rfl,(blk_cell BK3.out 4).trans rfl,(blk_cell BK3.out 5).trans rfl⟩ (fun hHeld=> ?_);clear hK K hg;refine norm_ (a':= ?_) ?_ ?_;rotate_left
  · show Act.put _ (some 11) _ = _
    simp only [Act.put,List.setIfInBounds_toArray,List.set_cons_zero,List.set_cons_succ,i64_w,i32_w]
    rfl
  refine pv_ (i:=8) (N:=some 12) (bs_ 11 9) ?_;refine pv_ (i:=9) (N:=some 13) (bs_ 11 10) ?_;refine last_ (i:=10) (N:=none) (bs_ 11 11) rfl rfl (by kernel_rfl) (by decide) (fun K hK=> ?_);refine store_part_step BK.out (by rfl) 49 (.tmp 13) (.tmp 11) rfl rfl 2 (.slice A1 (out++ [s]).length c1) [.slice A1 (out++ [s]).length c1] [vg, .bool wd, .slice A1 (out++ [s]).length c1] rfl rfl rfl (by kernel_rfl) (show (3:Nat)≤3 from by decide) (by intro q hq;simp only [List.mem_cons,List.not_mem_nil,or_false] at hq;rcases hq with rfl<;>rfl) rfl ?_;intro w7 hbk hg;have n0_:=am_ (R_put HO.out BK.out (by decide) hg);have n1_:=am_ (below_put HB.out (below_size HB.out) hg GE.out);have n2_:=am_ (keepS_put KPA.out hg);have n3_:=Aside0.mk hbk;clear HO HB BK KPA hbk hg;have HO:=n0_;have HB:=n1_;have KP:=n2_;have BK:=n3_;clear n0_ n1_ n2_ n3_;refine hK.out _ _ ?_;clear hK K hHeld;refine done_ (by kernel_rfl) ?_;go_wp2
  (first|go_end0|((try simp only [Exit.inBlock,Exit.then]);refine bodyPost_ret (results_none rfl _ _ _) rfl ?_)|refine bodyPost_end (results_none rfl _ _ _) rfl ?_);exact ⟨rfl,_,BK.out,HO.out,HB.out,KP.out⟩
end Go.Proofs.Ytahidkjncljkaaa.Print

namespace Go.Proofs.Ytahidkjncljkaaa.Print
open Go.RowKit Go.Proofs.YtahidkjncljkaaaW.PrintWords Go.Proofs.YtahidkjncljkaaaW.PrintLast Go.Proofs.YtahidkjncljkaaaW.PrintMore
attribute [local go_sem] max2_int min2_int max_two min_two max_three min_three max_four min_four

def vecByF (op:Int→Int→Int):List S37→Int→Int→Int→Int×Int×Int
 |[],a,b,d=>(a,b,d)
 |v::l,a,b,d=>vecByF op l (op a v.f0) (op b v.f1) (op d v.f2)
theorem vecByF_snoc (op:Int→Int→Int) (v:S37): ∀(l:List S37) (a b d:Int),vecByF op (l++ [v]) a b d=(op (vecByF op l a b d).1 v.f0,op (vecByF op l a b d).2.1 v.f1,op (vecByF op l a b d).2.2 v.f2)
 |[],_,_,_=>rfl
 |_::l,_,_,_=>vecByF_snoc op v l _ _ _
theorem vecByF_take (op:Int→Int→Int) (l:List S37) (a b d:Int) (i:Nat) (h:i<l.length):vecByF op (l.take (i+1)) a b d=(op (vecByF op (l.take i) a b d).1 (rd_T37 l i).f0,op (vecByF op (l.take i) a b d).2.1 (rd_T37 l i).f1,op (vecByF op (l.take i) a b d).2.2 (rd_T37 l i).f2):=by
 have e:rd_T37 l i=l[i]:=by simp [rd_T37,h]
 rw [List.take_succ_eq_append_getElem h,vecByF_snoc,e]
set_option maxHeartbeats 1000000 in
set_option maxRecDepth 100000 in
theorem vecBy_calls (g:Nat) (op:Int→Int→Int) (eg: ∀args w,(callFunc g args).run Try.prog w= .ok (.enter g args) w) (hop: ∀x y W,Calls Try.prog g #[.int .i64 x, .int .i64 y] W fun e w'=>e= .returned (.int .i64 (op x y))∧w'=W)
    (A:Option Addr) (c:Nat) (l:List S37) (a b d:Int) (w:World) (hr0:Kd.C k37 w A l.length l) (hc0:l.length≤c) (hm:l.length≤maxLen):
    Calls Try.prog 145 #[.func (.func g) #[] #[], .agg #[.int .i64 a, .int .i64 b, .int .i64 d], .slice A l.length c] w fun e w'=>e= .returned (.agg #[.int .i64 (vecByF op l a b d).1, .int .i64 (vecByF op l a b d).2.1, .int .i64 (vecByF op l a b d).2.2])∧Below w.heap.size w w':=by
  have hu37:=Try.underlying37;have HR0:=Aside0.mk hr0;have HOP:=Aside0.mk hop;have HEG:=Aside0.mk eg;have HBT:=am_ (vecByF_take op l a b d);clear hr0 hop eg;unfold maxLen at hm;go_enter Try.func145,Try.ntmps145;go_wp2
  go_loopg [11] l.length (fun kq s11 wr=> ∃i:Nat,i≤l.length∧l.length - i≤kq∧s11= .int .i64 i∧Aside0 (Below w.heap.size w wr)∧Aside0 (wr.heap[w.heap.size]?=some (.cells #[.int .i64 (vecByF op (l.take i) a b d).1, .int .i64 (vecByF op (l.take i) a b d).2.1, .int .i64 (vecByF op (l.take i) a b d).2.2] 37 (0,0)))∧Aside0 (wr.heap[w.heap.size+1]?=some (.cells #[.int .i64 0, .int .i64 0, .int .i64 0] 37 (0,0))))
  case atStart=>
    exact ⟨0,by omega,by omega,rfl,⟨below_alloc (below_alloc (Below.refl _ _) _) _⟩,⟨blk_alloc (blk_new _ _) _⟩,⟨by have:=blk_new (w.alloc (.cells #[.int .i64 a, .int .i64 b, .int .i64 d] 37)) (.cells #[.int .i64 0, .int .i64 0, .int .i64 0] 37);simpa using this⟩⟩
  case round=>
    obtain ⟨i,hi,hg,rfl,HB,HF,HZ⟩:=hrel;generalize hq:vecByF op (l.take i) a b d=q at HF;have HQ:=Aside0.mk hq;clear hq;by_cases hlt:i<l.length;rotate_left
    · obtain rfl : i = l.length := by omega
      have hq:q=vecByF op l a b d:=HQ.out.symm.trans (by rw [List.take_length])
      subst hq
      have HQ':=HQ
      clear HQ HBT
      have f0:=zz_ HF 0
      have f1:=zz_ HF 1
      have f2:=zz_ HF 2
      have g0:=zz_ HZ 0
      have g1:=zz_ HZ 1
      have g2:=zz_ HZ 2
      have z0:=blk_frozen HZ.out 0
      have z1:=blk_frozen HZ.out 1
      have z2:=blk_frozen HZ.out 2
      have hs1:w.heap.size+1<wr.heap.size:=blk_lt HZ.out
      go_wp2
      refine bodyPost_ret (results_cell_row rfl _ _ (w.heap.size+1) 37 #[.int .i64 (vecByF op l a b d).1, .int .i64 (vecByF op l a b d).2.1, .int .i64 (vecByF op l a b d).2.2] (0,0) _ rfl (blk_put (blk_put (blk_put HZ.out 0 _ rfl) 1 _ rfl) 2 _ rfl) Try.underlying37 rfl (by kernel_rfl)) rfl ?_
      exact ⟨rfl,below_set (below_set (below_set HB.out (Nat.le_succ _)) (Nat.le_succ _)) (Nat.le_succ _)⟩


    have hltz:(i:Int)<(l.length:Int):=by omega
    obtain ⟨ad,e1,h0,h1,h2⟩:=at_T37 HR0.out (i:Int) (by omega) (by omega);cases e1;simp only [Int.toNat_natCast] at h0 h1 h2;replace h0:=zx_ HB h0;replace h1:=zx_ HB h1;replace h2:=zx_ HB h2;have hsz:w.heap.size+1<wr.heap.size:=blk_lt HZ.out;go_wp2
    obtain ⟨W1,hW1⟩: ∃W1,W1=(wr.alloc (.cells #[.int .i64 (rd_T37 l i).f0, .int .i64 (rd_T37 l i).f1, .int .i64 (rd_T37 l i).f2] 37)).drew:=⟨_,rfl⟩;have hF1:W1.heap[w.heap.size]?=some (.cells #[.int .i64 q.1, .int .i64 q.2.1, .int .i64 q.2.2] 37 (0,0)):=by rw [hW1];exact blk_alloc HF.out _
    have hZ1:W1.heap[w.heap.size+1]?=some (.cells #[.int .i64 0, .int .i64 0, .int .i64 0] 37 (0,0)):=by rw [hW1];exact blk_alloc HZ.out _
    have hV1:W1.heap[wr.heap.size]?=some (.cells #[.int .i64 (rd_T37 l i).f0, .int .i64 (rd_T37 l i).f1, .int .i64 (rd_T37 l i).f2] 37 (0,0)):=by rw [hW1];exact blk_new _ _
    have hB1:Below w.heap.size w W1:=by rw [hW1];exact below_drew (below_alloc HB.out _)
    refine wp_region_still_tail 19 (by kernel_rfl) (by kernel_rfl) ?_
    change wpStill _ _ (World.drew _) _ _ _
    rw [←hW1];simp only [List.take_succ_cons,List.take_zero,List.drop_succ_cons,List.drop_zero];have HV1:=Aside0.mk hV1;have HF1:=Aside0.mk hF1;have HZ1:=Aside0.mk hZ1;have HB1:=Aside0.mk hB1;have f0:=(blk_cell hF1 0).trans rfl;have f1:=(blk_cell hF1 1).trans rfl;have f2:=(blk_cell hF1 2).trans rfl;have g0:=(blk_cell hV1 0).trans rfl;have g1:=(blk_cell hV1 1).trans rfl;have g2:=(blk_cell hV1 2).trans rfl;have HW1:=Aside0.mk hW1;clear hW1 hF1 hZ1 hV1 hB1;have eg:=HEG.out
    repeat still_step
    still_call (HOP.out _ _ _)
    repeat still_step
    still_call (HOP.out _ _ _)
    repeat still_step
    still_call (HOP.out _ _ _)
    repeat still_step
    refine wpStill_nil ?_
    change wpList _ _ _ _ _ (World.drew _)
    rw [←HW1.out];have z0:=blk_frozen HF1.out 0;have z1:=blk_frozen HF1.out 1;have z2:=blk_frozen HF1.out 2;have hs1:w.heap.size<W1.heap.size:=blk_lt HF1.out;go_wp2
    have hb:=HBT.out i hlt;rw [HQ.out] at hb;have HH:=Aside0.mk hb;clear hb;go_roundg (l.length - (i+1))
    case measure=>omega
    case rel=>
      refine ⟨i+1,by omega,by omega,by go_num,⟨below_set (below_set (below_set HB1.out (Nat.le_refl _)) (Nat.le_refl _)) (Nat.le_refl _)⟩,⟨?_⟩,⟨blk_far (blk_far (blk_far HZ1.out (by simp) _) (by simp) _) (by simp) _⟩⟩;rw [HH.out];exact blk_put (blk_put (blk_put HF1.out 0 _ rfl) 1 _ rfl) 2 _ rfl
theorem vecMax1_calls (x y:Int) (W:World):Calls Try.prog 149 #[.int .i64 x, .int .i64 y] W fun e w'=>e= .returned (.int .i64 (mx x y))∧w'=W:=by
 unfold mx
 go_enter Try.func149,Try.ntmps149
 go_wp2<;>(go_ret;exact ⟨rfl,rfl⟩)
def vec_Max.f (l0:List (S37)):Option (Int×Int×Int):=some (vecByF (fun x y=>mx x y) l0 0 0 0)
set_option maxHeartbeats 1000000 in
set_option maxRecDepth 100000 in
theorem vec_Max.calls (A0:Option Addr) (c0:Nat) (l0:List (S37)) (r1:Int) (r2:Int) (r3:Int) (w:World) (hr0:Kd.C k37 w A0 l0.length l0) (hc0:l0.length≤c0) (h:vec_Max.f l0=some (r1,r2,r3)):
  Calls Try.prog 124 #[.slice A0 l0.length c0] w fun e w'=>e= .returned (.agg #[.int .i64 r1, .int .i64 r2, .int .i64 r3])∧Below w.heap.size w w':=by
 have hu37:=Try.underlying37;have hm:l0.length≤maxLen:=hr0.2.1;have HC:=am_ (vecBy_calls 149 (fun x y=>mx x y) (enters_of Try.func149 (by kernel_rfl) rfl) vecMax1_calls A0 c0 l0 0 0 0 (w.alloc (.cells #[.int .i64 0, .int .i64 0, .int .i64 0] 37)) (Kd.C_below hr0 (below_alloc (Below.refl _ _) _)) hc0 hm);have HH:=Aside0.mk h;clear hr0 h;go_enter Try.func124,Try.ntmps124;go_wp2_with fail
 refine HC.out.mono ?_;rintro e w1 ⟨rfl,hb⟩;have h:=Option.some.inj (show some (vecByF (fun x y=>mx x y) l0 0 0 0)=some (r1,r2,r3) from HH.out);rw [h];have hZ:=blk_below (blk_new w (.cells #[.int .i64 0, .int .i64 0, .int .i64 0] 37)) hb;have HB:=Aside0.mk hb;have HZ:=Aside0.mk hZ;clear h hb hZ;have g0:=zz_ HZ 0;have g1:=zz_ HZ 1;have g2:=zz_ HZ 2;have z0:=blk_frozen HZ.out 0;have z1:=blk_frozen HZ.out 1;have z2:=blk_frozen HZ.out 2;have hs1:w.heap.size<w1.heap.size:=blk_lt HZ.out;go_wp2
 refine bodyPost_ret (results_cell_row rfl _ _ w.heap.size 37 #[.int .i64 r1, .int .i64 r2, .int .i64 r3] (0,0) _ rfl (blk_put (blk_put (blk_put HZ.out 0 _ rfl) 1 _ rfl) 2 _ rfl) Try.underlying37 rfl (by kernel_rfl)) rfl ?_;exact ⟨rfl,below_set (below_set (below_set (below_step (below_alloc (Below.refl _ _) _) HB.out) (Nat.le_refl _)) (Nat.le_refl _)) (Nat.le_refl _)⟩


end Go.Proofs.Ytahidkjncljkaaa.Print

namespace Go.Proofs.Ytahidkjncljkaaa.Print
open Go.RowKit Go.Proofs.YtahidkjncljkaaaW.PrintWords Go.Proofs.YtahidkjncljkaaaW.PrintLast Go.Proofs.YtahidkjncljkaaaW.PrintMore
attribute [local go_sem high] eqA37
abbrev PGoal:=S141
def goalCells (x:PGoal):List Value:=[.string x.f0.f0, .string x.f0.f1, .int .i64 x.f0.f2.f0, .int .i64 x.f0.f2.f1, .int .i64 x.f0.f2.f2, .string x.f1.f0, .string x.f1.f1, .int .i64 x.f1.f2.f0, .int .i64 x.f1.f2.f1, .int .i64 x.f1.f2.f2, .int .i64 x.f1.f3.f0, .int .i64 x.f1.f3.f1, .int .i64 x.f1.f3.f2, .int .i64 x.f1.f4.f0, .int .i64 x.f1.f4.f1, .int .i64 x.f1.f4.f2, .int .i64 x.f1.f5, .bool x.f2, .int .i64 x.f3.f0, .int .i64 x.f3.f1, .int .i64 x.f3.f2]
theorem goal_getD (pre post:List PGoal) (y:PGoal):(pre++y::post).getD ((pre.length:Nat):Int).toNat z141=y:=by
 rw [Int.toNat_natCast,List.getD_eq_getElem?_getD,List.getElem?_append_right (Nat.le_refl _),Nat.sub_self]
 rfl
theorem goal_cell {W:World} {base gg n cg i:Nat} {ok:Nat→Prop} {pre post:List PGoal} {y:PGoal} (hl:pre.length=i) (h:Kd.R k141 141 W base ok (.slice (some ⟨gg,0,none⟩) n cg) (pre++y::post)) (j:Nat) {u:Value} (hu:(goalCells y)[j]?=some u):W.cell? ⟨gg,i*21+j,none⟩=some u:=by
 subst hl;have hn:=(Kd.R_reads' h).1;have h1:((pre.length:Nat):Int)<(n:Int):=by rw [hn,List.length_append,List.length_cons];omega
 obtain ⟨c,_,hM,hc,_⟩:=Kd.R_elem h z141 ((pre.length:Nat):Int) (by omega) h1;rw [goal_getD] at hM;have e:=k141_openM hM;have hc': ∀j u,c[j]?=some u→W.cell? ⟨gg,((pre.length:Nat):Int).toNat*21+j,none⟩=some u:=hc;rw [Int.toNat_natCast] at hc';refine hc' j u ?_;rw [e];exact hu
theorem goal_run {P:Program} {W:World} {base gg n cg i:Nat} {pre post:List PGoal} {y:PGoal} (hl:pre.length=i) (h:Kd.R k141 141 W base (fun _=>True) (.slice (some ⟨gg,0,none⟩) n cg) (pre++y::post)) (ht:(P.info? 37).map (·.size)=some 3) (v:S37):
    ∃w1,(Instr.storeAt 37 (.pointer (some ⟨gg,i*21+18,none⟩)) (.agg #[.int .i64 v.f0, .int .i64 v.f1, .int .i64 v.f2])).run P W= .ok () w1∧Kd.R k141 141 w1 base (fun _=>True) (.slice (some ⟨gg,0,none⟩) n cg) (pre++(⟨y.f0,y.f1,y.f2,v⟩:PGoal)::post)∧W.grownBy w1 (some gg):=by
  subst hl;have hn:=(Kd.R_reads' h).1;have h1:((pre.length:Nat):Int)<(n:Int):=by rw [hn,List.length_append,List.length_cons];omega
  obtain ⟨c,hcl,hM,hc,_⟩:=Kd.R_elem h z141 ((pre.length:Nat):Int) (by omega) h1;rw [goal_getD] at hM;have e:=k141_openM hM;obtain ⟨hrow,hg⟩:=Kd.R_seg h ((pre.length:Nat):Int) (by omega) h1 (c:=c) (seg:=[.int .i64 v.f0, .int .i64 v.f1, .int .i64 v.f2]) (j:=18) (x':=(⟨y.f0,y.f1,y.f2,v⟩:PGoal)) hcl hc (show 18+3≤21 by decide) (okp:=fun _=>False) (by rw [e];exact k141_mkM _ _ _ (⟨y.f0,y.f1,y.f2,v⟩:PGoal)) (fun _ hk=>hk.elim)
  have es:(pre++y::post).set ((pre.length:Nat):Int).toNat (⟨y.f0,y.f1,y.f2,v⟩:PGoal)=pre++(⟨y.f0,y.f1,y.f2,v⟩:PGoal)::post:=by
    rw [Int.toNat_natCast,List.set_append_right _ _ (Nat.le_refl _),Nat.sub_self]
    rfl
  rw [es] at hrow
  have hrun:(Instr.storeAt 37 (.pointer (some ⟨gg,pre.length*21+18,none⟩)) (.agg #[.int .i64 v.f0, .int .i64 v.f1, .int .i64 v.f2])).run P W= .ok () (W.setCells gg (pre.length*21+18) [.int .i64 v.f0, .int .i64 v.f1, .int .i64 v.f2]):=by
    obtain ⟨_,inner,hown,hr⟩:=h
    rcases hown.2 with ⟨hv,_⟩|⟨g',cap',cur,hv,hb,hh,hnc,hcm,hcs,_⟩
    · cases hv
    injection hv with ha _ hc2;injection ha with ha;injection ha with hg';subst hg';subst hc2;refine run_store_run 37 _ [.int .i64 v.f0, .int .i64 v.f1, .int .i64 v.f2] hh rfl ht ?_ (by intro q hq;simp only [List.mem_cons,List.not_mem_nil,or_false] at hq;rcases hq with rfl|rfl|rfl<;>rfl);have hcs':cur.size=cg*21:=hcs;have hlen:n=pre.length+(post.length+1):=by rw [hn,List.length_append,List.length_cons]
    have h2:pre.length*21+21≤cg*21:=by
      have:pre.length+1≤cg:=by omega
      omega
    rw [hcs']
    show pre.length*21+18+3≤cg*21
    omega
  have en:((pre.length:Nat):Int).toNat*Kd.sz k141=pre.length*21:=by rw [Int.toNat_natCast];rfl
  rw [en] at hrow hg;exact ⟨_,hrun,hrow,hg⟩
section
variable {P:Program} {ops:Array Oper} {rest:List Oper} {o:Oper} {a:Act} {Q:Exit→Act→World→Prop} {Kc:Act→World→Prop} {W:World} {base gg n cg i:Nat} {pre post:List PGoal} {y:PGoal}
theorem goal_step (h:Kd.R k141 141 W base (fun _=>True) (.slice (some ⟨gg,0,none⟩) n cg) (pre++y::post)) (hl:pre.length=i) (ht:(P.info? 37).map (·.size)=some 3) (hw:Region.wanted o (yielded ops a.tmps)=true) (p x:Operand) (ho:o.op= .store 37 p x) (hN:o.dst=none) (v:S37)
  (hp:a.eval p= .pointer (some ⟨gg,i*21+18,none⟩)) (hx:a.eval x= .agg #[.int .i64 v.f0, .int .i64 v.f1, .int .i64 v.f2])
  (k: ∀w',Kd.R k141 141 w' base (fun _=>True) (.slice (some ⟨gg,0,none⟩) n cg) (pre++(⟨y.f0,y.f1,y.f2,v⟩:PGoal)::post)→W.grownBy w' (some gg)→Kc a w'):if Region.wanted o (yielded ops a.tmps)=true then Oper.wp P o a W Kc Q else Kc (a.put none undef) W:=by
 obtain ⟨w',hrun,hr,hg⟩:=goal_run (P:=P) hl h ht v;rw [if_pos hw];unfold Oper.wp execOp;simp only [ho,hp,hx,Sem.run_bind,Sem.run_pure,Result.andThen_ok,hrun]
 show Kc (a.put o.dst undef) _
 rw [hN];exact k _ hr hg
theorem goal_store (h:Kd.R k141 141 W base (fun _=>True) (.slice (some ⟨gg,0,none⟩) n cg) (pre++y::post)) (hl:pre.length=i) (ht:(P.info? 37).map (·.size)=some 3) (p x:Operand) (ho:o.op= .store 37 p x) (hN:o.dst=none) (hgd:o.guard=none) (v:S37)
  (hp:a.eval p= .pointer (some ⟨gg,i*21+18,none⟩)) (hx:a.eval x= .agg #[.int .i64 v.f0, .int .i64 v.f1, .int .i64 v.f2])
  (k: ∀w',Kd.R k141 141 w' base (fun _=>True) (.slice (some ⟨gg,0,none⟩) n cg) (pre++(⟨y.f0,y.f1,y.f2,v⟩:PGoal)::post)→W.grownBy w' (some gg)→wpList P ops Q rest a w'):wpList P ops Q (o::rest) a W:=by
 obtain ⟨w',hrun,hr,hg⟩:=goal_run (P:=P) hl h ht v;refine wpList_plain hgd fun K hK=> ?_
 unfold Oper.wp execOp;simp only [ho,hp,hx,Sem.run_bind,Sem.run_pure,Result.andThen_ok,hrun]
 show K (a.put o.dst undef) _
 rw [hN];exact hK a _ (k _ hr hg)
end
def maxG (y:PGoal):S37:=⟨(vecByF (fun x y=>mx x y) [y.f1.f2,y.f0.f2] 0 0 0).1,(vecByF (fun x y=>mx x y) [y.f1.f2,y.f0.f2] 0 0 0).2.1,(vecByF (fun x y=>mx x y) [y.f1.f2,y.f0.f2] 0 0 0).2.2⟩
theorem maxG_eq (y:PGoal):vec_Max.f [y.f1.f2,y.f0.f2]=some ((maxG y).f0,(maxG y).f1,(maxG y).f2):=rfl
def nowG (wide:Bool) (y:PGoal):S37:=if wide=true then ⟨1099511627776,1099511627776,1099511627776⟩ else maxG y
def upG (wide:Bool) (y:PGoal):PGoal:=⟨y.f0,y.f1,y.f2,nowG wide y⟩
def neG (a b:S37):Bool:=(!(a.f0==b.f0)||(!(a.f1==b.f1)||(!(a.f2==b.f2))))
def raise1 (y:PGoal):List S76:=if y.f2=false then [⟨1,y.f0.f0,y.f0.f1,y.f3⟩] else if neG y.f3 y.f1.f2=true then [⟨2,y.f0.f0,⟨#[]⟩,y.f3⟩] else []
def raiseG (wide:Bool) (y:PGoal):List S76:=raise1 (upG wide y)
theorem flat_snoc {α β:Type} (f:α→List β) (l:List α) (y:α):(l++ [y]).flatMap f=l.flatMap f++f y:=by
 rw [List.flatMap_append,List.flatMap_cons,List.flatMap_nil,List.append_nil]
theorem nx_nat {i n:Nat} (h:i<n) (hn:n<1000000):wrap64 ((i:Int)+1)=((i+1:Nat):Int):=by
 rw [w64 (by omega) (by omega)];rfl
theorem raiseG_len (wide:Bool): ∀l:List PGoal,(l.flatMap (raiseG wide)).length≤l.length
  |[]=>Nat.le_refl _
  | y :: l => by
    have:=raiseG_len wide l
    rw [List.flatMap_cons,List.length_append,List.length_cons];have:(raiseG wide y).length≤1:=by unfold raiseG raise1;split<;>(try split)<;>simp
    omega
set_option maxHeartbeats 8000000 in
set_option maxRecDepth 100000 in
theorem planRaise_calls (w W:World) (b:Nat) (vg vo:Value) (wide:Bool) (gs:List PGoal) (out:List S76)
    (hb:W.heap[b]?=some (.cells #[vg, .bool wide,vo] 139 (0,0))) (hge:w.heap.size≤b) (hB:Below w.heap.size w W) (hg:Kd.R k141 141 W w.heap.size (fun _=>True) vg gs) (ho:Kd.R k76 76 W w.heap.size (fun _=>True) vo out) (hl:out.length+gs.length<100000):
    Calls Try.prog 94 #[.pointer (some ⟨b,0,none⟩)] W fun e w'=>e= .returned (.tuple #[])∧ ∃vo',w'.heap[b]?=some (.cells #[vg, .bool wide,vo'] 139 (0,0))∧Kd.R k141 141 w' w.heap.size (fun _=>True) vg (gs.map (upG wide))∧Kd.R k76 76 w' w.heap.size (fun _=>True) vo' (out++gs.flatMap (raiseG wide))∧Below w.heap.size w w':=by
  have hu139:=Try.underlying139;have hu141:=Try.underlying141;have hu76:=Try.underlying76;have hu39:=Try.underlying39;have hu79:=Try.underlying79;have hu37:=Try.underlying37;obtain ⟨Ag,cg,eg⟩:=Kd.R_slice hg;subst eg;have BK:=Aside0.mk hb;have GE:=Aside0.mk hge;have HB:=Aside0.mk hB;have HG:=Aside0.mk hg;have HO:=Aside0.mk ho;have HLN:=Aside0.mk hl;clear hb hge hB hg ho hl;have cb0:=zz_ BK 0;go_enter Try.func94,Try.ntmps94;go_wp2
  clear cb0;go_loopg [9] gs.length (fun kq v9 w'=> ∃(pre post:List PGoal) (u:Value),gs=pre++post∧kq=post.length∧v9= .int .i64 (pre.length:Int)∧Aside0 (w'.heap[b]?=some (.cells #[.slice Ag gs.length cg, .bool wide,u] 139 (0,0)))∧Aside0 (Kd.R k141 141 w' w.heap.size (fun _=>True) (.slice Ag gs.length cg) (pre.map (upG wide)++post))∧Aside0 (Kd.R k76 76 w' w.heap.size (fun _=>True) u (out++pre.flatMap (raiseG wide)))∧Aside0 (Below w.heap.size w w'))
  case atStart=>exact ⟨[],gs,vo,rfl,rfl,rfl,BK,HG,⟨by rw [List.flatMap_nil,List.append_nil];exact HO.out⟩,HB⟩
  case round=>
    clear BK HG HO HB;obtain ⟨pre,post,u,hgs,hkq,rfl,BK,HG,HO,HB⟩:=hrel
    cases post with
    | nil =>
      have c1:decide ((pre.length:Int)<(gs.length:Int))=false:=decide_eq_false (by rw [hgs,List.append_nil];omega);rw [List.append_nil] at hgs;subst hgs;go_wp2
      (first|go_end0|((try simp only [Exit.inBlock,Exit.then]);refine bodyPost_ret (results_none rfl _ _ _) rfl ?_)|refine bodyPost_end (results_none rfl _ _ _) rfl ?_);exact ⟨rfl,_,BK.out,by have:=HG.out;rw [List.append_nil] at this;exact this,HO.out,HB.out⟩
    | cons y post =>
      have hn:gs.length=pre.length+(post.length+1):=by rw [hgs,List.length_append,List.length_cons]
      have c1:decide ((pre.length:Int)<(gs.length:Int))=true:=decide_eq_true (by omega);have q1:((pre.length:Nat):Int)<(gs.length:Int):=by omega
      obtain ⟨gg,cg',hv, -, -, -⟩:=Kd.R_form HG.out (by rw [List.length_append,List.length_cons];omega)
      obtain ⟨rfl,rfl⟩:Ag=some ⟨gg,0,none⟩∧cg=cg':=by
        injection hv with e1 e2 e3;exact ⟨e1,e3⟩
      clear hv;have HLEN:=am_ (show out.length+pre.length<100000 by have:=HLN.out;omega);generalize hi:pre.length=i at*;have HL0:=am_ (show (pre.map (upG wide)).length=i by rw [List.length_map];exact hi);have q0:(0:Int)≤((i:Nat):Int):=by omega
      have HGS:=Aside0.mk hgs;have HKQ:=Aside0.mk hkq;have HI:=Aside0.mk hi;have HN:=Aside0.mk hn;clear hgs hkq hi hn;replace q1:=eq_true q1;replace q0:=eq_true q0;have cb0:=zz_ BK 0;go_wp2
      have cb1:=zz_ BK 1;replace HO:=am_ (Kd.R_drew HO.out);replace HG:=am_ (Kd.R_drew HG.out);replace BK:=am_ (blk_drew BK.out);replace HB:=am_ (below_drew1 HB.out);refine start_ (n:=16) (S:=fun w'=>w'.cell? ⟨gg,i*21+5+2,none⟩=some (.int .i64 y.f1.f2.f0)∧w'.cell? ⟨gg,i*21+5+2+1,none⟩=some (.int .i64 y.f1.f2.f1)∧w'.cell? ⟨gg,i*21+5+2+2,none⟩=some (.int .i64 y.f1.f2.f2)∧w'.cell? ⟨gg,i*21+2,none⟩=some (.int .i64 y.f0.f2.f0)∧w'.cell? ⟨gg,i*21+2+1,none⟩=some (.int .i64 y.f0.f2.f1)∧w'.cell? ⟨gg,i*21+2+2,none⟩=some (.int .i64 y.f0.f2.f2)) (ds:=[15]) (bs_ 16 0) (by kernel_rfl) rfl rfl ⟨goal_cell HL0.out HG.out 7 rfl,goal_cell HL0.out HG.out 8 rfl,goal_cell HL0.out HG.out 9 rfl,goal_cell HL0.out HG.out 2 rfl,goal_cell HL0.out HG.out 3 rfl,goal_cell HL0.out HG.out 4 rfl⟩ (fun hHeld=> ?_);generalize wr.drew=w5 at HO HG BK HB hHeld ⊢;refine pv_ (i:=0) (N:=some 18) (bs_ 16 1) ?_;refine pv_ (i:=1) (N:=some 19) (bs_ 16 2) ?_;refine pv_ (i:=2) (N:=some 20) (bs_ 16 3) ?_;refine pv_ (i:=3) (N:=some 21) (bs_ 16 4) ?_;refine pv_ (i:=4) (N:=some 22) (bs_ 16 5) ?_;refine tv_ (i:=5) (N:=some 23) (bs_ 16 6) hHeld ?_;refine pv_ (i:=6) (N:=some 24) (bs_ 16 7) ?_;refine pv_ (i:=7) (N:=some 25) (bs_ 16 8) ?_;refine pv_ (i:=8) (N:=some 26) (bs_ 16 9) ?_;refine pv_ (i:=9) (N:=some 27) (bs_ 16 10) ?_;refine tv_ (i:=10) (N:=some 28) (bs_ 16 11) hHeld ?_;refine one_ (i:=11) (N:=some 29) (bs_ 16 12) rfl rfl (by kernel_rfl) (by decide) (fun K hK=> ?_)
      refine Kd.R_lit_step k37 (w0:=w5) w5.heap.size 37 (by rfl) (N:=29) rfl (xs:=[y.f1.f2,y.f0.f2]) (inner:=[.int .i64 y.f1.f2.f0, .int .i64 y.f1.f2.f1, .int .i64 y.f1.f2.f2, .int .i64 y.f0.f2.f0, .int .i64 y.f0.f2.f1, .int .i64 y.f0.f2.f2]) (ok:=fun _=>True) (okp:=fun _=>True) ?hr ?hp (fun _ hk=>hk) trivial (Below.refl _ _) (Nat.le_refl _) (by simp) ?_;(case hr=>first|(go_simp;done)|(go_simp;rfl));(case hp=>exact (Reps.c3 (show Kd.M k37 _ _ _ y.f1.f2 [.int .i64 y.f1.f2.f0, .int .i64 y.f1.f2.f1, .int .i64 y.f1.f2.f2] from k37_mkM _ _ _ y.f1.f2) (Reps.c3 (show Kd.M k37 _ _ _ y.f0.f2 [.int .i64 y.f0.f2.f0, .int .i64 y.f0.f2.f1, .int .i64 y.f0.f2.f2] from k37_mkM _ _ _ y.f0.f2) (Reps.none _ _))));intro v6 w6 ho6 hb _ _;replace HO:=am_ (Kd.R_below HO.out hb);replace HG:=am_ (Kd.R_below HG.out hb);replace BK:=am_ (blk_below BK.out hb);replace HB:=am_ (below_step HB.out hb);have HV:=Aside0.mk ho6;clear ho6 hb;obtain ⟨A6,c6,e6⟩:=Kd.R_slice HV.out;subst e6;refine hK.out _ _ ⟨goal_cell HL0.out HG.out 7 rfl,goal_cell HL0.out HG.out 8 rfl,goal_cell HL0.out HG.out 9 rfl,goal_cell HL0.out HG.out 2 rfl,goal_cell HL0.out HG.out 3 rfl,goal_cell HL0.out HG.out 4 rfl⟩ (fun hHeld=> ?_);clear hK K;refine norm_ (a':= ?_) ?_ ?_;rotate_left
      · show Act.put _ (some 29) _ = _
        simp only [Act.put,List.setIfInBounds_toArray,List.set_cons_zero,List.set_cons_succ,i64_w,i32_w]
        rfl
      refine one_ (i:=12) (N:=some 30) (bs_ 16 13) rfl rfl (by kernel_rfl) (by decide) (fun K hK=> ?_);refine goes_ Try.func124 (by kernel_rfl) rfl #[.slice A6 2 c6] (by rfl) rfl rfl (by (try simp only [List.map_toArray,List.map_cons,List.map_nil]);rfl) ?_;refine (vec_Max.calls A6 c6 [y.f1.f2,y.f0.f2] (maxG y).f0 (maxG y).f1 (maxG y).f2 _ (Kd.R_reads' HV.out).2.2 (Kd.R_reads' HV.out).2.1 (maxG_eq y)).mono ?_;rintro e w7 ⟨rfl,hb⟩;refine ⟨_,rfl, ?_⟩;replace HO:=am_ (Kd.R_below HO.out hb);replace HG:=am_ (Kd.R_below HG.out hb);replace BK:=am_ (blk_below BK.out hb);replace HB:=am_ (below_step HB.out hb);clear hb HV;refine hK.out _ _ ⟨goal_cell HL0.out HG.out 7 rfl,goal_cell HL0.out HG.out 8 rfl,goal_cell HL0.out HG.out 9 rfl,goal_cell HL0.out HG.out 2 rfl,goal_cell HL0.out HG.out 3 rfl,goal_cell HL0.out HG.out 4 rfl⟩ (fun hHeld=> ?_);clear hK K;refine norm_ (a':= ?_) ?_ ?_;rotate_left
      · show Act.put _ (some 30) _ = _
        simp only [Act.put,List.setIfInBounds_toArray,List.set_cons_zero,List.set_cons_succ,i64_w,i32_w]
        rfl
      refine pv_ (i:=13) (N:=some 31) (bs_ 16 14) ?_;refine pv_ (i:=14) (N:=some 32) (bs_ 16 15) ?_;refine last_ (i:=15) (N:=none) (bs_ 16 16) rfl rfl (by kernel_rfl) (by decide) (fun K hK=> ?_);refine goal_step HG.out HL0.out (by kernel_rfl) (by rfl) (.tmp 32) (.tmp 30) rfl rfl (maxG y) rfl rfl ?_;intro w8 hrow hg;have NEBK:=am_ (show some b≠some gg from fun e=>Kd.R_ne HG.out BK.out (by decide) e);have n0_:=am_ (Kd.R_over HO.out HG.out (by decide) hg);have n1_:=am_ (blk_put_other2 BK.out hg NEBK.out);have n2_:=am_ (pw_below_grown HB.out (some gg) (below_size HB.out) hg (fun k e=>by cases e;exact Kd.R_base HG.out gg rfl));have n3_:=Aside0.mk hrow;clear HO BK HB HG hrow hg NEBK;have HO:=n0_;have BK:=n1_;have HB:=n2_;have HG:=n3_;clear n0_ n1_ n2_ n3_;refine hK.out _ _ ?_;clear hK K hHeld;refine done_ (by kernel_rfl) ?_;clear cb0 cb1;have cb1:=zz_ BK 1;go_upto_if 36 with fail
      clear cb1;go_cut [] (fun wc=>Aside0 (wc.heap[b]?=some (.cells #[.slice (some ⟨gg,0,none⟩) gs.length cg, .bool wide,u] 139 (0,0)))∧Aside0 (Kd.R k141 141 wc w.heap.size (fun _=>True) (.slice (some ⟨gg,0,none⟩) gs.length cg) (pre.map (upG wide)++(upG wide y)::post))∧Aside0 (Kd.R k76 76 wc w.heap.size (fun _=>True) u (out++pre.flatMap (raiseG wide)))∧Aside0 (Below w.heap.size w wc))
      case first=>
        cases wide with
        | false =>
          go_wp2
          go_meet
          case rel=>exact ⟨BK,HG,HO,HB⟩
        | true =>
          go_wp2_with (first|(go_at_call 125;refine (vec_Most.calls 1099511627776 1099511627776 1099511627776 _ rfl).mono ?_;rintro e w9 ⟨rfl,hb⟩;have n0_:=am_ (Kd.R_below HO.out hb);have n1_:=am_ (Kd.R_below HG.out hb);have n2_:=am_ (blk_below BK.out hb);have n3_:=am_ (below_step HB.out hb);clear HO HG BK HB hb;have HO:=n0_;have HG:=n1_;have BK:=n2_;have HB:=n3_;clear n0_ n1_ n2_ n3_)|((with_reducible refine gate_store (t:=37) (p:=40) (v:= .tmp 38) rfl ?_);refine goal_store HG.out HL0.out (by kernel_rfl) (.tmp 40) (.tmp 38) rfl rfl rfl ⟨1099511627776,1099511627776,1099511627776⟩ rfl rfl ?_;intro w10 hrow hg;have NEBK:=am_ (show some b≠some gg from fun e=>Kd.R_ne HG.out BK.out (by decide) e);have n0_:=am_ (Kd.R_over HO.out HG.out (by decide) hg);have n1_:=am_ (blk_put_other2 BK.out hg NEBK.out);have n2_:=am_ (pw_below_grown HB.out (some gg) (below_size HB.out) hg (fun k e=>by cases e;exact Kd.R_base HG.out gg rfl));have n3_:=Aside0.mk hrow;clear HO BK HB HG hrow hg NEBK;have HO:=n0_;have BK:=n1_;have HB:=n2_;have HG:=n3_;clear n0_ n1_ n2_ n3_))
          go_meet
          case rel=>exact ⟨BK,HG,HO,HB⟩
      case rest=>
        clear BK HG HO HB;obtain ⟨BK,HG,HO,HB⟩:=hcut;obtain ⟨z,hz⟩: ∃z,upG wide y=z:=⟨_,rfl⟩;have HZ:=Aside0.mk hz;rw [hz] at HG;clear hz;have HRZ:raiseG wide y=raise1 z:=by unfold raiseG;rw [HZ.out]
        cases hth:z.f2 with
        | false =>
          have cth:wc.cell? ⟨gg,i*21+17,none⟩=some (.bool false):=(goal_cell HL0.out HG.out 17 rfl).trans (by rw [hth]);have HRS:raiseG wide y=[⟨1,z.f0.f0,z.f0.f1,z.f3⟩]:=by rw [HRZ];unfold raise1;rw [if_pos hth]
          clear HRZ;have HRS:=Aside0.mk HRS;go_wp2_with fail
          clear cth;replace HO:=am_ (Kd.R_drew HO.out);replace HG:=am_ (Kd.R_drew HG.out);replace BK:=am_ (blk_drew BK.out);replace HB:=am_ (below_drew1 HB.out);refine start_ (n:=17) (S:=fun w'=>w'.cell? ⟨gg,i*21,none⟩=some (.string z.f0.f0)∧w'.cell? ⟨gg,i*21+1,none⟩=some (.string z.f0.f1)∧w'.cell? ⟨gg,i*21+18,none⟩=some (.int .i64 z.f3.f0)∧w'.cell? ⟨gg,i*21+18+1,none⟩=some (.int .i64 z.f3.f1)∧w'.cell? ⟨gg,i*21+18+2,none⟩=some (.int .i64 z.f3.f2)) (ds:=[16]) (bs_ 17 0) (by kernel_rfl) rfl rfl ⟨goal_cell HL0.out HG.out 0 rfl,goal_cell HL0.out HG.out 1 rfl,goal_cell HL0.out HG.out 18 rfl,goal_cell HL0.out HG.out 19 rfl,goal_cell HL0.out HG.out 20 rfl⟩ (fun hHeld=> ?_);generalize wc.drew=w9 at HO HG BK HB hHeld ⊢;refine pv_ (i:=0) (N:=some 47) (bs_ 17 1) ?_;refine pv_ (i:=1) (N:=some 48) (bs_ 17 2) ?_;refine pv_ (i:=2) (N:=some 49) (bs_ 17 3) ?_;refine pv_ (i:=3) (N:=some 50) (bs_ 17 4) ?_;refine pv_ (i:=4) (N:=some 51) (bs_ 17 5) ?_;refine tv_ (i:=5) (N:=some 52) (bs_ 17 6) hHeld ?_;refine pv_ (i:=6) (N:=some 53) (bs_ 17 7) ?_;refine pv_ (i:=7) (N:=some 54) (bs_ 17 8) ?_;refine pv_ (i:=8) (N:=some 55) (bs_ 17 9) ?_;refine pv_ (i:=9) (N:=some 56) (bs_ 17 10) ?_;refine tv_ (i:=10) (N:=some 57) (bs_ 17 11) hHeld ?_;refine pv_ (i:=11) (N:=some 58) (bs_ 17 12) ?_;refine pv_ (i:=12) (N:=some 59) (bs_ 17 13) ?_;refine pv_ (i:=13) (N:=some 60) (bs_ 17 14) ?_;refine tv_ (i:=14) (N:=some 61) (bs_ 17 15) hHeld ?_;refine pv_ (i:=15) (N:=some 62) (bs_ 17 16) ?_
          refine last_ (i:=16) (N:=some 63) (bs_ 17 17) rfl rfl (by kernel_rfl) (by decide) (fun K hK=> ?_);refine goes_ Try.func126 (by kernel_rfl) rfl #[.pointer (some ⟨b,0,none⟩), .agg (stepCells ⟨1,z.f0.f0,z.f0.f1,z.f3⟩)] (by rfl) rfl rfl (by (try simp only [List.map_toArray,List.map_cons,List.map_nil]);rfl) ?_;refine (planPut_calls w _ b _ _ _ _ ⟨1,z.f0.f0,z.f0.f1,z.f3⟩ BK.out GE.out HB.out HO.out (by rw [List.length_append];have:=HLEN.out;have:=raiseG_len wide pre;have:=HI.out;omega)).mono ?_;rintro e w12 ⟨rfl,vo',hbk,ho,hb,hk⟩;refine ⟨_,rfl, ?_⟩;have n0_:=am_ (R_keepS HG.out BK.out (by decide) hk);clear HG BK HO HB hk;have HG:=n0_;have BK:=Aside0.mk hbk;have HO:=Aside0.mk ho;have HB:=Aside0.mk hb;clear n0_ hbk ho hb;refine hK.out _ _ ?_;clear hK K hHeld;refine done_ (by kernel_rfl) ?_;go_wp2_with fail
          go_roundg post.length
          case measure=>have:=HKQ.out;rw [this,List.length_cons];omega
          case rel=>exact ⟨pre++ [y],post,_,by rw [HGS.out,List.append_assoc];rfl,rfl,by rw [List.length_append,HI.out,List.length_singleton,nx_nat (n:=gs.length) (by have:=HN.out;omega) (by have:=HLN.out;omega)],BK,⟨by rw [List.map_append,List.append_assoc];show Kd.R _ _ _ _ _ _ (_++(upG wide y::post));rw [HZ.out];exact HG.out⟩,⟨by rw [flat_snoc,←List.append_assoc];rw [HRS.out];exact HO.out⟩,HB⟩
        | true =>
          have cth:wc.cell? ⟨gg,i*21+17,none⟩=some (.bool true):=(goal_cell HL0.out HG.out 17 rfl).trans (by rw [hth]);go_wp2_with fail
          clear cth;replace HO:=am_ (Kd.R_drew HO.out);replace HG:=am_ (Kd.R_drew HG.out);replace BK:=am_ (blk_drew BK.out);replace HB:=am_ (below_drew1 HB.out);refine start_ (n:=11) (S:=fun w'=>w'.cell? ⟨gg,i*21+18,none⟩=some (.int .i64 z.f3.f0)∧w'.cell? ⟨gg,i*21+18+1,none⟩=some (.int .i64 z.f3.f1)∧w'.cell? ⟨gg,i*21+18+2,none⟩=some (.int .i64 z.f3.f2)∧w'.cell? ⟨gg,i*21+5+2,none⟩=some (.int .i64 z.f1.f2.f0)∧w'.cell? ⟨gg,i*21+5+2+1,none⟩=some (.int .i64 z.f1.f2.f1)∧w'.cell? ⟨gg,i*21+5+2+2,none⟩=some (.int .i64 z.f1.f2.f2)) (ds:=[]) (bs_ 11 0) (by kernel_rfl) rfl rfl ⟨goal_cell HL0.out HG.out 18 rfl,goal_cell HL0.out HG.out 19 rfl,goal_cell HL0.out HG.out 20 rfl,goal_cell HL0.out HG.out 7 rfl,goal_cell HL0.out HG.out 8 rfl,goal_cell HL0.out HG.out 9 rfl⟩ (fun hHeld=> ?_);generalize wc.drew=w9 at HO HG BK HB hHeld ⊢;refine pv_ (i:=0) (N:=some 65) (bs_ 11 1) ?_;refine pv_ (i:=1) (N:=some 66) (bs_ 11 2) ?_;refine pv_ (i:=2) (N:=some 67) (bs_ 11 3) ?_;refine tv_ (i:=3) (N:=some 68) (bs_ 11 4) hHeld ?_;refine pv_ (i:=4) (N:=some 69) (bs_ 11 5) ?_;refine pv_ (i:=5) (N:=some 70) (bs_ 11 6) ?_;refine pv_ (i:=6) (N:=some 71) (bs_ 11 7) ?_;refine pv_ (i:=7) (N:=some 72) (bs_ 11 8) ?_;refine tv_ (i:=8) (N:=some 73) (bs_ 11 9) hHeld ?_;refine pv_ (i:=9) (N:=some 74) (bs_ 11 10) ?_;refine pv_ (i:=10) (N:=some 64) (bs_ 11 11) ?_;refine done_ (by kernel_rfl) ?_
          cases hne:neG z.f3 z.f1.f2 with
          | true =>
            have HRS:raiseG wide y=[⟨2,z.f0.f0,⟨#[]⟩,z.f3⟩]:=by rw [HRZ];unfold raise1;rw [if_neg (by rw [hth];simp),if_pos hne]
            clear HRZ;have HRS:=Aside0.mk HRS;unfold neG at hne;rw [hne];go_wp2_with fail
            replace HO:=am_ (Kd.R_drew HO.out);replace HG:=am_ (Kd.R_drew HG.out);replace BK:=am_ (blk_drew BK.out);replace HB:=am_ (below_drew1 HB.out);refine start_ (n:=12) (S:=fun w'=>w'.cell? ⟨gg,i*21,none⟩=some (.string z.f0.f0)∧w'.cell? ⟨gg,i*21+18,none⟩=some (.int .i64 z.f3.f0)∧w'.cell? ⟨gg,i*21+18+1,none⟩=some (.int .i64 z.f3.f1)∧w'.cell? ⟨gg,i*21+18+2,none⟩=some (.int .i64 z.f3.f2)) (ds:=[11]) (bs_ 12 0) (by kernel_rfl) rfl rfl ⟨goal_cell HL0.out HG.out 0 rfl,goal_cell HL0.out HG.out 18 rfl,goal_cell HL0.out HG.out 19 rfl,goal_cell HL0.out HG.out 20 rfl⟩ (fun hHeld=> ?_);generalize w9.drew=w10 at HO HG BK HB hHeld ⊢;refine pv_ (i:=0) (N:=some 75) (bs_ 12 1) ?_;refine pv_ (i:=1) (N:=some 76) (bs_ 12 2) ?_;refine pv_ (i:=2) (N:=some 77) (bs_ 12 3) ?_;refine pv_ (i:=3) (N:=some 78) (bs_ 12 4) ?_;refine pv_ (i:=4) (N:=some 79) (bs_ 12 5) ?_;refine tv_ (i:=5) (N:=some 80) (bs_ 12 6) hHeld ?_;refine pv_ (i:=6) (N:=some 81) (bs_ 12 7) ?_;refine pv_ (i:=7) (N:=some 82) (bs_ 12 8) ?_;refine pv_ (i:=8) (N:=some 83) (bs_ 12 9) ?_;refine tv_ (i:=9) (N:=some 84) (bs_ 12 10) hHeld ?_;refine pv_ (i:=10) (N:=some 85) (bs_ 12 11) ?_;refine last_ (i:=11) (N:=some 86) (bs_ 12 12) rfl rfl (by kernel_rfl) (by decide) (fun K hK=> ?_);refine goes_ Try.func126 (by kernel_rfl) rfl #[.pointer (some ⟨b,0,none⟩), .agg (stepCells ⟨2,z.f0.f0,⟨#[]⟩,z.f3⟩)] (by rfl) rfl rfl (by (try simp only [List.map_toArray,List.map_cons,List.map_nil]);rfl) ?_
            refine (planPut_calls w _ b _ _ _ _ ⟨2,z.f0.f0,⟨#[]⟩,z.f3⟩ BK.out GE.out HB.out HO.out (by rw [List.length_append];have:=HLEN.out;have:=raiseG_len wide pre;have:=HI.out;omega)).mono ?_;rintro e w12 ⟨rfl,vo',hbk,ho,hb,hk⟩;refine ⟨_,rfl, ?_⟩;have n0_:=am_ (R_keepS HG.out BK.out (by decide) hk);clear HG BK HO HB hk;have HG:=n0_;have BK:=Aside0.mk hbk;have HO:=Aside0.mk ho;have HB:=Aside0.mk hb;clear n0_ hbk ho hb;refine hK.out _ _ ?_;clear hK K hHeld;refine done_ (by kernel_rfl) ?_;go_wp2_with fail
            go_roundg post.length
            case measure=>have:=HKQ.out;rw [this,List.length_cons];omega
            case rel=>exact ⟨pre++ [y],post,_,by rw [HGS.out,List.append_assoc];rfl,rfl,by rw [List.length_append,HI.out,List.length_singleton,nx_nat (n:=gs.length) (by have:=HN.out;omega) (by have:=HLN.out;omega)],BK,⟨by rw [List.map_append,List.append_assoc];show Kd.R _ _ _ _ _ _ (_++(upG wide y::post));rw [HZ.out];exact HG.out⟩,⟨by rw [flat_snoc,←List.append_assoc];rw [HRS.out];exact HO.out⟩,HB⟩
          | false =>
            have HRS:raiseG wide y=[]:=by rw [HRZ];unfold raise1;rw [if_neg (by rw [hth];simp),if_neg (by rw [hne];simp)]
            clear HRZ;have HRS:=Aside0.mk HRS;unfold neG at hne;rw [hne];go_wp2_with fail
            go_roundg post.length
            case measure=>have:=HKQ.out;rw [this,List.length_cons];omega
            case rel=>exact ⟨pre++ [y],post,_,by rw [HGS.out,List.append_assoc];rfl,rfl,by rw [List.length_append,HI.out,List.length_singleton,nx_nat (n:=gs.length) (by have:=HN.out;omega) (by have:=HLN.out;omega)],BK,⟨by rw [List.map_append,List.append_assoc];show Kd.R _ _ _ _ _ _ (_++(upG wide y::post));rw [HZ.out];exact HG.out⟩,⟨by rw [flat_snoc,←List.append_assoc];rw [HRS.out,List.append_nil];exact HO.out⟩,HB⟩

def moveG (y:PGoal):List S76:=if y.f2=true∧y.f1.f1.toList≠y.f0.f1.toList then [⟨3,y.f0.f0,y.f0.f1,⟨0,0,0⟩⟩] else []
theorem moveG_len: ∀l:List PGoal,(l.flatMap moveG).length≤l.length
  |[]=>Nat.le_refl _
  | y :: l => by
    have:=moveG_len l
    rw [List.flatMap_cons,List.length_append,List.length_cons];have:(moveG y).length≤1:=by unfold moveG;split<;>simp
    omega
theorem goalCells_info:(Try.prog.info? 141).map (·.size)=some 21:=by kernel_rfl
theorem goalCells_one (y:PGoal): ∀q∈goalCells y,q.oneCell'=true:=by
 intro q hq;unfold goalCells at hq;simp only [List.mem_cons,List.not_mem_nil,or_false] at hq
 rcases hq with rfl|rfl|rfl|rfl|rfl|rfl|rfl|rfl|rfl|rfl|rfl|rfl|rfl|rfl|rfl|rfl|rfl|rfl|rfl|rfl|rfl<;>rfl
section
variable {P:Program} {ops:Array Oper} {rest:List Oper} {o:Oper} {a:Act} {Q:Exit→Act→World→Prop} {W:World}
theorem load_at {t g off:Nat} (cs:List Value) (hgd:o.guard=none) (x:Operand) (ho:o.op= .load t x) (hx:a.eval x= .pointer (some ⟨g,off,none⟩)) (d:TypeDesc) (hu:P.underlying t=some d) (hd:(match d with| .struct _| .array _ _=>true|_=>false)=true) (hi:(P.info? t).map (·.size)=some cs.length)
    (hc: ∀j v,cs[j]?=some v→W.cell? ⟨g,off+j,none⟩=some v) (h:wpList P ops Q rest (a.put o.dst (.agg cs.toArray)) W):wpList P ops Q (o::rest) a W:=by
  have hl:(loadCells ⟨g,off,none⟩ cs.length).run P W= .ok cs.toArray W:=run_loadCells_list (P:=P) W ⟨g,off,none⟩ cs (fun j v hv=>by
    have hadd:(⟨g,off,none⟩:Addr).add j=⟨g,off+j,none⟩:=Addr.add_lit _ _ _
    rw [hadd]
    exact hc j v hv)
  have hrun:(loadVar t ⟨g,off,none⟩).run P W= .ok (.agg cs.toArray) W:=by
    cases hq:P.info? t with
    |none=>simp [hq] at hi
    | some i =>
      have hs:i.size=cs.length:=by simpa [hq] using hi
      have hagg:(isAgg t).run P W= .ok true W:=by
        unfold isAgg
        rw [Sem.run_bind,run_underlying hu W]
        cases d<;>simp_all
      simp [loadVar,Sem.run_bind,hagg,sizeOf,typeInfo,hq,hs,hl]
  refine wpList_plain hgd fun K hK=> ?_
  unfold Oper.wp execOp
  simp only [ho,hx,Instr.loadAt,Instr.sureAddr,Sem.run_bind,Sem.run_pure,Result.andThen_ok,hrun]
  exact hK _ _ h
end
set_option maxHeartbeats 8000000 in
set_option maxRecDepth 100000 in
theorem planMove_calls (w W:World) (b:Nat) (vg vo:Value) (wide:Bool) (gs:List PGoal) (out:List S76)
    (hb:W.heap[b]?=some (.cells #[vg, .bool wide,vo] 139 (0,0))) (hge:w.heap.size≤b) (hB:Below w.heap.size w W) (hg:Kd.R k141 141 W w.heap.size (fun _=>True) vg gs) (ho:Kd.R k76 76 W w.heap.size (fun _=>True) vo out) (hl:out.length+gs.length<100000):
    Calls Try.prog 95 #[.pointer (some ⟨b,0,none⟩)] W fun e w'=>e= .returned (.tuple #[])∧ ∃vo',w'.heap[b]?=some (.cells #[vg, .bool wide,vo'] 139 (0,0))∧Kd.R k141 141 w' w.heap.size (fun _=>True) vg gs∧Kd.R k76 76 w' w.heap.size (fun _=>True) vo' (out++gs.flatMap moveG)∧Below w.heap.size w w':=by
  have hu139:=Try.underlying139;have hu141:=Try.underlying141;have hu76:=Try.underlying76;have hu39:=Try.underlying39;have hu79:=Try.underlying79;have hu37:=Try.underlying37;obtain ⟨Ag,cg,eg⟩:=Kd.R_slice hg;subst eg;have BK:=Aside0.mk hb;have GE:=Aside0.mk hge;have HB:=Aside0.mk hB;have HG:=Aside0.mk hg;have HO:=Aside0.mk ho;have HLN:=Aside0.mk hl;clear hb hge hB hg ho hl;have cb0:=zz_ BK 0;go_enter Try.func95,Try.ntmps95;go_wp2
  clear cb0;go_loopg [9] gs.length (fun kq v9 w'=> ∃(pre post:List PGoal) (u:Value),gs=pre++post∧kq=post.length∧v9= .int .i64 (pre.length:Int)∧Aside0 (w'.heap[b]?=some (.cells #[.slice Ag gs.length cg, .bool wide,u] 139 (0,0)))∧Aside0 (Kd.R k141 141 w' w.heap.size (fun _=>True) (.slice Ag gs.length cg) gs)∧Aside0 (Kd.R k76 76 w' w.heap.size (fun _=>True) u (out++pre.flatMap moveG))∧Aside0 (Below w.heap.size w w'))
  case atStart=>exact ⟨[],gs,vo,rfl,rfl,rfl,BK,HG,⟨by rw [List.flatMap_nil,List.append_nil];exact HO.out⟩,HB⟩
  case round=>
    clear BK HG HO HB;obtain ⟨pre,post,u,hgs,hkq,rfl,BK,HG,HO,HB⟩:=hrel
    cases post with
    | nil =>
      have c1:decide ((pre.length:Int)<(gs.length:Int))=false:=decide_eq_false (by rw [hgs,List.append_nil];omega);rw [List.append_nil] at hgs;subst hgs;go_wp2
      (first|go_end0|((try simp only [Exit.inBlock,Exit.then]);refine bodyPost_ret (results_none rfl _ _ _) rfl ?_)|refine bodyPost_end (results_none rfl _ _ _) rfl ?_);exact ⟨rfl,_,BK.out,HG.out,HO.out,HB.out⟩
    | cons y post =>
      have hn:gs.length=pre.length+(post.length+1):=by rw [hgs,List.length_append,List.length_cons]
      have c1:decide ((pre.length:Int)<(gs.length:Int))=true:=decide_eq_true (by omega);have q1:((pre.length:Nat):Int)<(gs.length:Int):=by omega
      obtain ⟨gg,cg',hv, -, -, -⟩:=Kd.R_form HG.out (by omega)
      obtain ⟨rfl,rfl⟩:Ag=some ⟨gg,0,none⟩∧cg=cg':=by
        injection hv with e1 e2 e3;exact ⟨e1,e3⟩
      clear hv;have HLEN:=am_ (show out.length+pre.length<100000 by have:=HLN.out;omega);have HG':Kd.R k141 141 wr w.heap.size (fun _=>True) (.slice (some ⟨gg,0,none⟩) gs.length cg) (pre++y::post):=by rw [←hgs];exact HG.out
      generalize hi:pre.length=i at*;have q0:(0:Int)≤((i:Nat):Int):=by omega
      have HGS:=Aside0.mk hgs;have HKQ:=Aside0.mk hkq;have HI:=Aside0.mk hi;have HN:=Aside0.mk hn;have HGP:=Aside0.mk HG';clear hgs hkq hi hn HG';replace q1:=eq_true q1;replace q0:=eq_true q0;have BK_:=BK;have HG_:=HG
      go_upto_region 3 with (first|((with_reducible refine gate_dst (N:=12) rfl ?_);refine load_at (goalCells y) rfl (.tmp 11) rfl (g:=gg) (off:=i*21) rfl _ hu141 rfl goalCells_info (fun j v hv=>goal_cell HI.out HGP.out j hv) ?_)|((with_reducible refine gate_dst (N:=3) rfl ?_);refine bx_ (N:=3) (cs:=#[.string ⟨#[]⟩, .string ⟨#[]⟩, .int .i64 0, .int .i64 0, .int .i64 0, .string ⟨#[]⟩, .string ⟨#[]⟩, .int .i64 0, .int .i64 0, .int .i64 0, .int .i64 0, .int .i64 0, .int .i64 0, .int .i64 0, .int .i64 0, .int .i64 0, .int .i64 0, .bool false, .int .i64 0, .int .i64 0, .int .i64 0]) (t:=141) ?_;intro gb3 hg w3 hbox hb;replace HO:=am_ (Kd.R_below HO.out hb);replace HG:=am_ (Kd.R_below HG.out hb);replace BK:=am_ (blk_below BK.out hb);have BK3:=am_ (hbox);have GE3:=am_ ((by rw [hg];exact below_size HB.out:w.heap.size≤gb3));replace HB:=am_ (below_step HB.out hb);have EQ3:=am_ (hg);have NE3:=am_ (show b≠gb3 from by have:=blk_lt BK_.out;rw [hg];exact Nat.ne_of_lt this);have OLDG:=am_ (show some gb3≠(Value.slice (some ⟨gg,0,none⟩) gs.length cg).ownBlock from fun e=>by have:=Kd.R_lt HG_.out gb3 e.symm;omega);clear hb hbox hg)|((with_reducible refine gate_store (t:=141) (p:=3) (v:= .tmp 12) rfl ?_);refine store_all BK3.out 141 (.tmp 3) (.tmp 12) rfl rfl rfl (.agg (goalCells y).toArray) (goalCells y) rfl rfl rfl goalCells_info rfl (goalCells_one y) ?_;intro w4 hbk hg;replace HO:=am_ (R_put HO.out BK3.out (by decide) hg);replace BK:=am_ (blk_put_other BK.out hg (NE3.out));replace HB:=am_ (below_put HB.out (below_size HB.out) hg GE3.out);replace BK3:=am_ (hbk);have HG4:=am_ (Kd.R_mono (Kd.R_grown (Kd.R_tight (by rfl) HG.out) hg (fun k hk e=>OLDG.out (e.symm.trans hk))) (fun _ _=>trivial));clear HG;have HG:=HG4;clear HG4;clear hbk hg))
      have c17:w4.cell? ⟨gb3,17,none⟩=some (.bool y.f2):=zz_ BK3 17;have c6:w4.cell? ⟨gb3,5+1,none⟩=some (.string y.f1.f1):=zz_ BK3 6;have c1_:w4.cell? ⟨gb3,1,none⟩=some (.string y.f0.f1):=zz_ BK3 1;have c0_:w4.cell? ⟨gb3,0,none⟩=some (.string y.f0.f0):=zz_ BK3 0;clear BK3 HGP
      cases hth:y.f2 with
      | false =>
        have HRS:Aside0 (moveG y=[]):=⟨by unfold moveG;rw [if_neg (by rw [hth];simp)]⟩;rw [hth] at c17;clear hth;go_wp2
        go_roundg post.length
        case measure=>have:=HKQ.out;rw [this,List.length_cons];omega
        case rel=>exact ⟨pre++ [y],post,_,by rw [HGS.out,List.append_assoc];rfl,rfl,by rw [List.length_append,HI.out,List.length_singleton,nx_nat (n:=gs.length) (by have:=HN.out;omega) (by have:=HLN.out;omega)],BK,HG,⟨by rw [flat_snoc,←List.append_assoc,HRS.out];rw [List.append_nil];exact HO.out⟩,HB⟩
      | true =>
        rw [hth] at c17;by_cases hp:y.f1.f1.toList=y.f0.f1.toList
        · have HRS : Aside0 (moveG y = []) := ⟨by unfold moveG; rw [if_neg (by simp [hp])]⟩
          have hp1:(y.f1.f1.toList==y.f0.f1.toList)=true:=beq_iff_eq.2 hp
          have hp2:(y.f1.f1.toList !=y.f0.f1.toList)=false:=bne_eq_false_iff_eq.2 hp
          clear hp hth
          go_wp2
          go_roundg post.length
          case measure=>have:=HKQ.out;rw [this,List.length_cons];omega
          case rel=>exact ⟨pre++ [y],post,_,by rw [HGS.out,List.append_assoc];rfl,rfl,by rw [List.length_append,HI.out,List.length_singleton,nx_nat (n:=gs.length) (by have:=HN.out;omega) (by have:=HLN.out;omega)],BK,HG,⟨by rw [flat_snoc,←List.append_assoc,HRS.out];rw [List.append_nil];exact HO.out⟩,HB⟩
        have HRS:Aside0 (moveG y=[⟨3,y.f0.f0,y.f0.f1,⟨0,0,0⟩⟩]):=⟨by unfold moveG;rw [if_pos ⟨hth,hp⟩]⟩;have hp1:(y.f1.f1.toList==y.f0.f1.toList)=false:=beq_eq_false_iff_ne.2 hp;have hp2:(y.f1.f1.toList !=y.f0.f1.toList)=true:=bne_iff_ne.2 hp;clear hp hth;go_wp2_with (go_at_call 126;refine (planPut_calls w _ b _ _ _ _ (⟨3,y.f0.f0,y.f0.f1,⟨0,0,0⟩⟩:S76) BK.out GE.out HB.out HO.out (by rw [List.length_append];have:=HLEN.out;have:=moveG_len pre;have:=HI.out;omega)).mono ?_;rintro e w6 ⟨rfl,vo',hbk,ho,hb,hk⟩;have n0_:=am_ (R_keepS HG.out BK.out (by decide) hk);clear HG BK HO HB hk;have HG:=n0_;have BK:=Aside0.mk hbk;have HO:=Aside0.mk ho;have HB:=Aside0.mk hb;clear n0_ hbk ho hb)
        go_roundg post.length
        case measure=>have:=HKQ.out;rw [this,List.length_cons];omega
        case rel=>exact ⟨pre++ [y],post,_,by rw [HGS.out,List.append_assoc];rfl,rfl,by rw [List.length_append,HI.out,List.length_singleton,nx_nat (n:=gs.length) (by have:=HN.out;omega) (by have:=HLN.out;omega)],BK,HG,⟨by rw [flat_snoc,←List.append_assoc,HRS.out];exact HO.out⟩,HB⟩
end Go.Proofs.Ytahidkjncljkaaa.Print

namespace Go.Proofs.Ytahidkjncljkaaa.Print
open Go.RowKit Go.Shelf Go.Proofs.YtahidkjncljkaaaW.PrintWords Go.Proofs.YtahidkjncljkaaaW.PrintLast Go.Proofs.YtahidkjncljkaaaW.PrintMore
attribute [local go_sem] Oper.semAt_some
section
variable {F:Fence} {n:Nat} {P:Program} {ops:Array Oper} {rest:List Oper} {o:Oper} {a:Act} {Q:Exit→Act→World→Prop} {W:World}
theorem in_load {t g off:Nat} (cs:List Value) (hgd:o.guard=none) (x:Operand) (ho:o.op= .load t x) (hx:a.eval x= .pointer (some ⟨g,off,none⟩)) (d:TypeDesc) (hu:P.underlying t=some d) (hd:(match d with| .struct _| .array _ _=>true|_=>false)=true) (hi:(P.info? t).map (·.size)=some cs.length)
    (hc: ∀j v,cs[j]?=some v→W.cell? ⟨g,off+j,none⟩=some v) (h:wpListIn F n P ops Q rest (a.put o.dst (.agg cs.toArray)) W):wpListIn F n P ops Q (o::rest) a W:=by
  have hl:(loadCells ⟨g,off,none⟩ cs.length).run P W= .ok cs.toArray W:=run_loadCells_list (P:=P) W ⟨g,off,none⟩ cs (fun j v hv=>by
    have hadd:(⟨g,off,none⟩:Addr).add j=⟨g,off+j,none⟩:=Addr.add_lit _ _ _;rw [hadd];exact hc j v hv)
  have hrun:(loadVar t ⟨g,off,none⟩).run P W= .ok (.agg cs.toArray) W:=by
    cases hq:P.info? t with
    |none=>simp [hq] at hi
    | some i =>
      have hs:i.size=cs.length:=by simpa [hq] using hi
      have hagg:(isAgg t).run P W= .ok true W:=by
        unfold isAgg;rw [Sem.run_bind,run_underlying hu W]
        cases d<;>simp_all
      simp [loadVar,Sem.run_bind,hagg,sizeOf,typeInfo,hq,hs,hl]
  refine wpListIn_plain hgd fun K hK=> ?_
  unfold Oper.wpIn;refine ⟨?_, ?_⟩
  · simp [Oper.about,ho]
  rw [Oper.semAt_plain F _ _ (by rw [ho];intro c hc';cases hc')];unfold execOp;simp only [ho,hx,Instr.loadAt,Instr.sureAddr,Sem.run_bind,Sem.run_pure,Result.andThen_ok,hrun];exact hK _ _ h
theorem in_alloc (hgd:o.guard=none) {N:Tmp} (_hd:o.dst=some N) (t:TypeId) (ho:o.op= .alloc t) {cs:Array Value}
    (hrun:(execOp a.eval o).run P W= .ok (.value (.pointer (some ⟨W.heap.size,0,none⟩))) (W.alloc (.cells cs t (0,0))))
    (h: ∀g,g=W.heap.size→ ∀w1,w1.heap[g]?=some (.cells cs t (0,0))→Below W.heap.size W w1→wpListIn F n P ops Q rest (a.put o.dst (.pointer (some ⟨g,0,none⟩))) w1):wpListIn F n P ops Q (o::rest) a W:=by
  refine wpListIn_plain hgd fun K hK=> ?_
  unfold Oper.wpIn;refine ⟨?_, ?_⟩
  · simp [Oper.about,ho]
  rw [Oper.semAt_plain F _ _ (by rw [ho];intro c hc';cases hc'),hrun];exact hK _ _ (h _ rfl _ (blk_new W _) (below_alloc (Below.refl _ _) _))
theorem in_store_all {gb e:Nat} {zs:Array Value} (hh:W.heap[gb]?=some (.cells zs e (0,0))) (t:TypeId) (p x:Operand) (ho:o.op= .store t p x) (hN:o.dst=none) (hgd:o.guard=none) (u:Value) (seg:List Value)
    (hp:a.eval p= .pointer (some ⟨gb,0,none⟩)) (hx:a.eval x=u) (hu:u.cells.toList=seg) (ht:(P.info? t).map (·.size)=some seg.length) (hz:zs.size=seg.length) (h1: ∀q∈seg,q.oneCell'=true)
    (h: ∀w',w'.heap[gb]?=some (.cells seg.toArray e (0,0))→W.grownBy w' (some gb)→wpListIn F n P ops Q rest a w'):wpListIn F n P ops Q (o::rest) a W:=by
  obtain ⟨w',cur,hrun,hc,hs,hl,hg⟩:=put_run (P:=P) hh t u 0 seg hu ht (by omega) h1
  have e1:cur=seg.toArray:=by
    apply Array.ext'
    rw [hl,List.take_zero,List.nil_append,Nat.zero_add,List.drop_of_length_le (by simp [Array.length_toList];omega),List.append_nil]
  subst e1;refine wpListIn_plain hgd fun K hK=> ?_
  unfold Oper.wpIn;refine ⟨?_, ?_⟩
  · simp [Oper.about,ho]
  rw [Oper.semAt_plain F _ _ (by rw [ho];intro c hc';cases hc')];unfold execOp;simp only [ho,hp,hx,Sem.run_bind,Sem.run_pure,Result.andThen_ok,hrun]
  show K (a.put o.dst undef) _
  rw [hN];exact hK a _ (h _ hc hg)
end
def KeepG (A B:World):Prop:= ∀(g:Nat) (cs:Array Value) (t:TypeId),A.heap[g]?=some (Obj.cells cs t (0,0))→t=141∨t=137→B.heap[g]?=some (Obj.cells cs t (0,0))
theorem keepG_trans {A B C:World} (h:KeepG A B) (k:KeepG B C):KeepG A C:=fun g cs t hg ht=>k g cs t (h g cs t hg ht) ht
theorem keepG_obj (W:World) (l:Nat) (o o':Obj) (h:W.heap[l]?=some o) (hc:o.isCells=false):KeepG W (W.putObj l o'):=fun g cs t hg ht=>by
 have hne:g≠l:=fun e=>by
  rw [e,h] at hg;cases hg;cases hc
 rw [World.putObj_heap_other hne];exact hg
theorem R_keepG {base:Nat} {A B:World} {v:Value} {gs:List PGoal} (h:Kd.R k141 141 A base (fun _=>True) v gs) (hk:KeepG A B):Kd.R k141 141 B base (fun _=>True) v gs:=
  Kd.R_mono (Kd.R_step (Kd.R_bound h) (fun k hk' _=>by
    obtain ⟨_,_,_,q,hq,cells,hc⟩:=hk'
    have e:q=141:=by
      rcases List.mem_cons.1 hq with e|e
      · exact e
      cases e
    subst e;rw [hk k cells _ hc (.inl rfl),hc])) (fun _ _=>trivial)
theorem goal_split {gs:List PGoal} {i:Nat} (h:i<gs.length):gs=gs.take i++gs[i]::gs.drop (i+1):=by
 rw [←List.drop_eq_getElem_cons h,List.take_append_drop]
def backAt (gs:List PGoal) (m:Nat):Int×PGoal:=(((gs.length - 1 - m:Nat):Int),gs.getD (gs.length - 1 - m) z141)
def backTo (gs:List PGoal) (m:Nat):List (Int×PGoal):=(List.range m).map (backAt gs)
theorem backTo_succ (gs:List PGoal) (m:Nat):backTo gs (m+1)=backTo gs m++ [backAt gs m]:=by simp [backTo,List.range_succ]
theorem backTo_len (gs:List PGoal) (m:Nat):(backTo gs m).length=m:=by simp [backTo]
theorem backTo_all (gs:List PGoal):(backTo gs gs.length).map (·.2)=gs.reverse:=by
  apply List.ext_getElem
  · simp [backTo]
  intro i h1 h2;rw [List.length_reverse] at h2;simp only [backTo,List.map_map,List.getElem_map,List.getElem_range,Function.comp_apply,backAt];rw [List.getElem_reverse,List.getD_eq_getElem?_getD,List.getElem?_eq_getElem (by omega),Option.getD_some]
def encG (x:Int×PGoal):Array Value:=#[.int .i64 x.1, .agg (goalCells x.2).toArray]
set_option maxRecDepth 100000 in
set_option maxHeartbeats 4000000 in
theorem back1_in (F:Fence) (n:Nat) (hf:F.fn 150) (hro:F.round=none) (hn:1≤n) (l Bs base cg:Nat) (Ag:Option Addr) (gs:List PGoal) (hl:gs.length<100000) (J Jx:List (Int×PGoal)→World→Prop)
    (hY: ∀pre x W,J pre W→pre.length<gs.length→YieldAt F (n - 1) Try.prog l (encG x) W fun e W'=>
      (e= .returned (.bool true)∧J (pre++ [x]) W'∧KeepG W W')∨(e= .returned (.bool false)∧Jx (pre++ [x]) W'))
    (W:World) (hBs:W.heap[Bs]?=some (.cells #[.slice Ag gs.length cg] 137 (0,0))) (hg:Kd.R k141 141 W base (fun _=>True) (.slice Ag gs.length cg) gs) (h0:J [] W):
    CallsIn F n Try.prog 150 #[.func (.yield l) #[] #[], .pointer (some ⟨Bs,0,none⟩)] W fun e W'=>(∃v,e= .returned v)∧
      ((∃ys,ys=backTo gs gs.length∧J ys W')∨(∃pre,pre.length≤gs.length∧Jx pre W')):=by
  refine callsIn_of_wp Try.func150 rfl hf ?_ hro;simp only [Try.ntmps150,List.size_toArray,List.length_cons,List.length_nil,Nat.reduceAdd,Nat.reduceSub,Array.replicate_succ,Array.replicate_zero,List.push_toArray,List.append_toArray,List.nil_append,List.cons_append];have hu141:=Try.underlying141;have hbs0:W.cell? ⟨Bs,0,none⟩=some (.slice Ag gs.length cg):=(blk_cell hBs 0).trans rfl
  gi_wp2
  clear hbs0
  gi_loopw [3] (fun i wr=> ∃m:Nat,m≤gs.length∧i= .int .i64 ((gs.length:Int) - 1 - m)∧J (backTo gs m) wr∧wr.heap[Bs]?=some (.cells #[.slice Ag gs.length cg] 137 (0,0))∧Kd.R k141 141 wr base (fun _=>True) (.slice Ag gs.length cg) gs)
    (fun i _=>(intOf i+1).toNat)
  case atStart=>exact ⟨0,Nat.zero_le _,by simp,h0,hBs,hg⟩
  case round=>
    obtain ⟨m,hm,rfl,hJs,hBr,hGr⟩:=hrel;have hbs0:wr.cell? ⟨Bs,0,none⟩=some (.slice Ag gs.length cg):=(blk_cell hBr 0).trans rfl;by_cases hlt:m<gs.length;rotate_left
    · obtain rfl : m = gs.length := by omega
      have c1:decide ((gs.length:Int) - 1 - (gs.length:Int)≥0)=false:=decide_eq_false (by omega)
      gi_wp2
      go_end0
      exact ⟨⟨_,rfl⟩, .inl ⟨_,rfl,hJs⟩⟩
    obtain ⟨i,hi⟩: ∃i,gs.length - 1 - m=i:=⟨_,rfl⟩;have ei:(gs.length:Int) - 1 - m=(i:Int):=by omega
    have hil:i<gs.length:=by omega
    obtain ⟨gg,cg',hv, -, -, -⟩:=Kd.R_form hGr (by omega)
    obtain ⟨rfl,rfl⟩:Ag=some ⟨gg,0,none⟩∧cg=cg':=by
      injection hv with e1 e2 e3;exact ⟨e1,e3⟩
    obtain ⟨fn,tmps,assign,body,hy,hR⟩:=hY _ (backAt gs m) wr hJs (by rw [backTo_len];exact hlt)
    have hba:backAt gs m=((i:Int),gs[i]):=by
      unfold backAt;rw [hi,List.getD_eq_getElem?_getD,List.getElem?_eq_getElem hil,Option.getD_some]
    obtain ⟨y,hyy⟩: ∃y,gs[i]=y:=⟨_,rfl⟩;have HSP:gs=gs.take i++y::gs.drop (i+1):=by rw [←hyy];exact goal_split hil
    rw [hba,hyy] at hy;unfold encG at hy;dsimp only at hy;have HG2:Kd.R k141 141 wr base (fun _=>True) (.slice (some ⟨gg,0,none⟩) gs.length cg) (gs.take i++y::gs.drop (i+1)):=by rw [←HSP];exact hGr
    have HTL:(gs.take i).length=i:=by rw [List.length_take];omega
    rw [ei];have c1:decide ((i:Int)≥0)=true:=decide_eq_true (by omega);have q0:(0:Int)≤(i:Int):=by omega
    have q1:(i:Int)<(gs.length:Int):=by omega
    have LD:=fun j v hv=>goal_cell HTL HG2 j (u:=v) hv
    have EI:=Aside0.mk ei;have HBA:=Aside0.mk hba;have HYY:=Aside0.mk hyy;clear HSP hba hyy hi ei HTL HG2
    gi_wp2_with (refine in_load (goalCells y) rfl (.tmp 15) rfl (g:=gg) (off:=i*21) rfl _ hu141 rfl goalCells_info LD ?_)
    refine hR.mono ?_;rintro e W3 (⟨rfl,hJ3,hk3⟩|⟨rfl,hJx3⟩)
    · gi_wp2
      go_roundw
      case rel=>exact ⟨m+1,by omega,by have:=EI.out;congr 1;omega,by rw [backTo_succ];exact hJ3,hk3 _ _ _ hBr (.inr rfl),R_keepG hGr hk3⟩
      case measure=>have:=EI.out;simp [intOf]
    gi_wp2
    refine bodyPost_ret (results_none rfl _ _ _) rfl ?_;exact ⟨⟨_,rfl⟩, .inr ⟨_,by rw [List.length_append,backTo_len];simp;omega,hJx3⟩⟩
def eqV (x0 x1 x2 y0 y1 y2:Int):Bool:=x0==y0 && (x1==y1 && x2==y2)
theorem eqA_v (d:Nat) (w:World) (x0 y0 x1 y1 x2 y2:Int):(Op.equalIn (d+2) 37 (.agg #[.int .i64 x0, .int .i64 x1, .int .i64 x2]) (.agg #[.int .i64 y0, .int .i64 y1, .int .i64 y2])).run Try.prog w= .ok (eqV x0 x1 x2 y0 y1 y2) w:=eqA37 d w x0 y0 x1 y1 x2 y2
attribute [local go_sem high] eqA_v
theorem neG_eqV (a b:S37):neG a b= !eqV a.f0 a.f1 a.f2 b.f0 b.f1 b.f2:=by
 unfold neG eqV
 cases (a.f0==b.f0)<;>cases (a.f1==b.f1)<;>cases (a.f2==b.f2)<;>rfl
section
variable {F:Fence} {n:Nat} {P:Program} {ops:Array Oper} {rest:List Oper} {o:Oper} {a:Act} {Q:Exit→Act→World→Prop} {W:World}
theorem in_box (hgd:o.guard=none) {N:Tmp} (_hd:o.dst=some N) (t:TypeId) (x:Operand) (ho:o.op= .box t x) {cs:Array Value}
    (hrun:(execOp a.eval o).run P W= .ok (.value (.pointer (some ⟨W.heap.size,0,none⟩))) (W.alloc (.cells cs t (0,0))))
    (h: ∀g,g=W.heap.size→ ∀w1,w1.heap[g]?=some (.cells cs t (0,0))→Below W.heap.size W w1→wpListIn F n P ops Q rest (a.put o.dst (.pointer (some ⟨g,0,none⟩))) w1):wpListIn F n P ops Q (o::rest) a W:=by
  refine wpListIn_plain hgd fun K hK=> ?_
  unfold Oper.wpIn;refine ⟨?_, ?_⟩
  · simp [Oper.about,ho]
  rw [Oper.semAt_plain F _ _ (by rw [ho];intro c hc';cases hc'),hrun];exact hK _ _ (h _ rfl _ (blk_new W _) (below_alloc (Below.refl _ _) _))
end
theorem blk_own {B k:Nat} {W1 W2:World} {row:Option Nat} {cs:Array Value} {t:TypeId} (h:W1.heap[k]?=some (Obj.cells cs t (0,0))) (hg:W1.grownBy W2 row) (hr: ∀r,row=some r→B≤r∧ ∃o:Obj,W1.heap[r]?=some o∧o.isCells=false):W2.heap[k]?=some (Obj.cells cs t (0,0)):=
 blk_put_other2 h hg (fun e=>by
  obtain ⟨_,o,ho,hc⟩:=hr k e.symm;rw [h] at ho;cases ho
  cases hc)
theorem R_ownf {α:Type} {d:Kd α} {e base B:Nat} {W1 W2:World} {v:Value} {xs:List α} {row:Option Nat} (h:d.R e W1 base (fun _=>True) v xs) (hg:W1.grownBy W2 row) (hr: ∀r,row=some r→B≤r∧ ∃o:Obj,W1.heap[r]?=some o∧o.isCells=false):d.R e W2 base (fun _=>True) v xs:=
 Kd.R_mono (Kd.R_step (Kd.R_bound h) (fun k hk' _=>by
  obtain ⟨_,_,_,q,hq,cells,hc⟩:=hk';rw [blk_own hc hg hr,hc])) (fun _ _=>trivial)
theorem keepsFrom_of {B:Nat} {W W':World} (hs:W.heap.size≤W'.heap.size) (h: ∀(g:Nat) (ob:Obj),W.heap[g]?=some ob→ob.isCells=false→W'.heap[g]?=some ob):KeepsFrom B W W':=⟨hs,fun k o _ hk ho=>h k o hk ho⟩
theorem keepS_from {B b:Nat} {W W':World} {cs:Array Value} {t:TypeId} (hb:W.heap[b]?=some (Obj.cells cs t (0,0))) (h:KeepS b W W'):KeepsFrom B W W':=keepsFrom_of h.2 fun g ob hg hc=>h.1 g ob hg (fun e=>by
 rw [e,hb] at hg;cases hg
 cases hc) (fun cs' e=>by
 rw [e] at hc
 cases hc)
theorem keepS_goal {b:Nat} {W W':World} {cs:Array Value} (hb:W.heap[b]?=some (Obj.cells cs 139 (0,0))) (h:KeepS b W W'):KeepG W W':=fun g cs' t hg ht=>h.1 g _ hg (fun e=>by
 rw [e,hb] at hg;injection hg with hg;injection hg with _ h2 _;subst h2
 rcases ht with ht|ht<;>cases ht) (fun cs2 e=>by
 injection e with _ h2 _;subst h2
 rcases ht with ht|ht<;>cases ht)
theorem back_calls (Ag:Option Addr) (n cg:Nat) (w:World):Calls Try.prog 127 #[.slice Ag n cg] w fun e w'=> ∃Bs,e= .returned (.func (.func 150) #[] #[.pointer (some ⟨Bs,0,none⟩)])∧w'.heap[Bs]?=some (Obj.cells #[.slice Ag n cg] 137 (0,0))∧Below w.heap.size w w':=by
 go_enter Try.func127,Try.ntmps127;go_wp2
 go_ret
 exact ⟨_,rfl,blk_new w _,below_alloc (Below.refl _ _) _⟩
theorem back_stops (base Bs cg:Nat) (Ag:Option Addr) (gs:List PGoal) (hl:gs.length<100000) (n:Nat) (hn:1≤n) (w:World) (hBs:w.heap[Bs]?=some (Obj.cells #[.slice Ag gs.length cg] 137 (0,0))) (hg:Kd.R k141 141 w base (fun _=>True) (.slice Ag gs.length cg) gs):
  SeqStopsK Fence.wide n Try.prog 150 #[.pointer (some ⟨Bs,0,none⟩)] encG KeepG (fun xs=>xs=backTo gs gs.length) (fun pre=>pre.length≤gs.length) gs.length w:=fun l J Jx W hW _ _ hY h0=>
 back1_in Fence.wide n trivial rfl hn l Bs base cg Ag gs hl J Jx hY W (blk_below hBs hW) (Kd.R_below hg hW) h0
def FreshW (W w:World):Prop:=W.heap.size≤w.heap.size∧ ∀k,k<W.heap.size→w.heap[k]?=W.heap[k]?
theorem fresh_box {W w3 w4:World} {g:Nat} (hb:Below W.heap.size W w3) (hg:g=W.heap.size) (hgr:w3.grownBy w4 (some g)):FreshW W w4:=⟨Nat.le_trans hb.size hgr.size,fun k hk=>by
 rw [hgr.block k (Nat.lt_of_lt_of_le hk hb.size) (fun e=>by injection e with e;omega),hb.block k hk]⟩
theorem R_fresh {α:Type} {d:Kd α} {e base:Nat} {W w:World} {v:Value} {xs:List α} (h:d.R e W base (fun _=>True) v xs) (hf:FreshW W w):d.R e w base (fun _=>True) v xs:=Kd.R_step h (fun k _ hk=>hf.2 k hk)
theorem blk_fresh {W w:World} {k:Nat} {ob:Obj} (h:W.heap[k]?=some ob) (hf:FreshW W w):w.heap[k]?=some ob:=by
 rw [hf.2 k (blk_lt h),h]
def lowerG (y:PGoal):List S76:=if neG y.f3 y.f0.f2=true then [⟨2,y.f0.f0,⟨#[]⟩,y.f0.f2⟩] else []
theorem lowerG_len: ∀l:List PGoal,(l.flatMap lowerG).length≤l.length
  |[]=>Nat.le_refl _
  | y :: l => by
    have:=lowerG_len l
    rw [List.flatMap_cons,List.length_append,List.length_cons];have:(lowerG y).length≤1:=by unfold lowerG;split<;>simp
    omega
set_option maxHeartbeats 8000000 in
set_option maxRecDepth 100000 in
theorem planLower_calls (w W:World) (b:Nat) (vg vo:Value) (wide:Bool) (gs:List PGoal) (out:List S76)
    (hb:W.heap[b]?=some (.cells #[vg, .bool wide,vo] 139 (0,0))) (hge:w.heap.size≤b) (hB:Below w.heap.size w W) (hg:Kd.R k141 141 W w.heap.size (fun _=>True) vg gs) (ho:Kd.R k76 76 W w.heap.size (fun _=>True) vo out) (hl:out.length+gs.length<100000):
    Calls Try.prog 96 #[.pointer (some ⟨b,0,none⟩)] W fun e w'=>e= .returned (.tuple #[])∧ ∃vo',w'.heap[b]?=some (.cells #[vg, .bool wide,vo'] 139 (0,0))∧Kd.R k141 141 w' w.heap.size (fun _=>True) vg gs∧Kd.R k76 76 w' w.heap.size (fun _=>True) vo' (out++gs.reverse.flatMap lowerG)∧Below w.heap.size w w':=by
  have hu139:=Try.underlying139;have hu141:=Try.underlying141;have hu76:=Try.underlying76;have hu39:=Try.underlying39;have hu79:=Try.underlying79;have hu37:=Try.underlying37;obtain ⟨Ag,cg,eg⟩:=Kd.R_slice hg;subst eg;have BK:=Aside0.mk hb;have GE:=Aside0.mk hge;have HB:=Aside0.mk hB;have HG:=Aside0.mk hg;have HO:=Aside0.mk ho;have HLN:=Aside0.mk hl;clear hb hge hB hg ho hl;refine (callsIn_wide (n:=5)).1 ?_;refine callsIn_of_wp_marks Try.func96 rfl trivial ?_ rfl;simp only [Try.ntmps96,List.size_toArray,List.length_cons,List.length_nil,Nat.reduceAdd,Nat.reduceSub,Array.replicate_succ,Array.replicate_zero,List.push_toArray,List.append_toArray,List.nil_append,List.cons_append]
  gi_wp2_with (first
    |(refine in_box rfl (N:=1) rfl 136 (.tmp 0) rfl (cs:=#[.pointer (some ⟨b,0,none⟩)]) ?hr ?_;(case hr=>first|(go_simp;done)|(go_simp;rfl));intro gb1 hg1 w1 hbox hb1;replace HO:=am_ (Kd.R_below HO.out hb1);replace HG:=am_ (Kd.R_below HG.out hb1);replace BK:=am_ (blk_below BK.out hb1);replace HB:=am_ (below_step HB.out hb1);have B1:=Aside0.mk hbox;clear hbox hb1 hg1;have cb1:=(blk_cell B1.out 0).trans rfl;have cb0:=(blk_cell BK.out 0).trans rfl)
    |(refine ⟨trivial, ?_⟩;gi_at_call 127;refine (callsIn_wide.2 (back_calls Ag gs.length cg _)).mono ?_;rintro e w2 ⟨Bs,rfl,hbs,hb2⟩;have n0_:=am_ (Kd.R_below HO.out hb2);have n1_:=am_ (Kd.R_below HG.out hb2);have n2_:=am_ (blk_below BK.out hb2);have n3_:=am_ (below_step HB.out hb2);have n4_:=am_ (blk_below B1.out hb2);clear HO HG BK HB B1 cb0 cb1;have HO:=n0_;have HG:=n1_;have BK:=n2_;have HB:=n3_;have B1:=n4_;clear n0_ n1_ n2_ n3_ n4_;have BS:=Aside0.mk hbs;have HS2:=am_ (below_size HB.out);clear hbs hb2))
  have h1:1≤5:=by omega
  refine wpIn_rangeFunc_ownH (F:=Fence.wide) rfl h1 (gf:=150) (lb:=#[.pointer (some ⟨Bs,0,none⟩)]) rfl trivial (enters_of Try.func150 (by kernel_rfl) rfl)
    (back_stops w.heap.size Bs cg Ag gs (by have:=HLN.out;omega) (5 - 1) (by omega) w2 BS.out HG.out) keepG_trans (fun W l o o' _ h hc _=>keepG_obj W l o o' h hc) (Below.refl _ _) (fun _=>rfl)
    (fun pre W'=> ∃u,Aside0 (W'.heap[b]?=some (Obj.cells #[.slice Ag gs.length cg, .bool wide,u] 139 (0,0)))∧Aside0 (W'.heap[gb1]?=some (Obj.cells #[.pointer (some ⟨b,0,none⟩)] 136 (0,0)))∧Aside0 (Kd.R k141 141 W' w.heap.size (fun _=>True) (.slice Ag gs.length cg) gs)∧Aside0 (Kd.R k76 76 W' w.heap.size (fun _=>True) u (out++(pre.map (·.2)).flatMap lowerG))∧Aside0 (Below w.heap.size w W'))
    (fun _ _ _=>False)
    (fun s W1 W2 row hs hg hr=>by
      obtain ⟨u,BK,B1,HG,HO,HB⟩:=hs;exact ⟨u,⟨blk_own BK.out hg hr⟩,⟨blk_own B1.out hg hr⟩,⟨R_ownf HG.out hg hr⟩,⟨R_ownf HO.out hg hr⟩,⟨pw_below_grown HB.out row (below_size HB.out) hg (fun k e=>by have:=(hr k e).1;have:=HS2.out;omega)⟩⟩)
    (fun _ _ _ _ _ hs _ _=>hs)
    ⟨vo,BK,B1,HG,⟨by show Kd.R _ _ _ _ _ _ (out++ []);rw [List.append_nil];exact HO.out⟩,HB⟩
    (fun x a' W'=> ∃g,a'={tmps:=#[.pointer (some ⟨b,0,none⟩), .pointer (some ⟨gb1,0,none⟩),undef, .pointer (some ⟨g,0,none⟩), .pointer (some ⟨b,0,none⟩), .pointer (some ⟨b,0,none⟩), .pointer (some ⟨b,0,none⟩), .slice Ag gs.length cg, .func (.func 150) #[] #[.pointer (some ⟨Bs,0,none⟩)], .int .i64 x.1, .agg (goalCells x.2).toArray,undef,undef,undef,undef,undef,undef,undef,undef,undef,undef,undef,undef,undef,undef,undef],defers:=[]}∧W'.heap[g]?=some (Obj.cells (goalCells x.2).toArray 141 (0,0)))
    (fun x a'=>fun _ W1 W2 row hs hg hr=>by
      obtain ⟨g,e,h⟩:=hs;exact ⟨g,e,blk_own h hg hr⟩) ?assign ?body ?done ?stop
  case assign=>
    clear BK B1 HG HO HB BS;rintro l pre x W' K ⟨u,BK,B1,HG,HO,HB⟩ hK;have HK:=Aside0.mk hK;clear hK;unfold encG;refine wpIn_region_lit ?_;simp only [List.zip_toArray,List.zip_cons_cons,List.zip_nil_right,List.zip_nil_left,List.foldl_toArray,List.foldl_toArray',List.foldl_cons,List.foldl_nil,List.setIfInBounds_toArray,List.set_cons_zero,List.set_cons_succ];refine in_alloc rfl (N:=3) rfl 141 rfl (cs:=#[.string ⟨#[]⟩, .string ⟨#[]⟩, .int .i64 0, .int .i64 0, .int .i64 0, .string ⟨#[]⟩, .string ⟨#[]⟩, .int .i64 0, .int .i64 0, .int .i64 0, .int .i64 0, .int .i64 0, .int .i64 0, .int .i64 0, .int .i64 0, .int .i64 0, .int .i64 0, .bool false, .int .i64 0, .int .i64 0, .int .i64 0]) ?hr ?_
    case hr=>first|(go_simp;done)|(go_simp;rfl)
    intro g hg0 w3 hbox hb3;have G0:=Aside0.mk hg0;have G3:=Aside0.mk hbox;have HB3:=Aside0.mk hb3;clear hg0 hbox hb3;refine in_store_all G3.out 141 (.tmp 3) (.tmp 10) rfl rfl rfl (.agg (goalCells x.2).toArray) (goalCells x.2) rfl rfl rfl goalCells_info rfl (goalCells_one x.2) ?_;intro w4 hbk hgr;have FR:=am_ (fresh_box HB3.out G0.out hgr);have HB4:=am_ (below_put (below_step HB.out HB3.out) (below_size (below_step HB.out HB3.out)) hgr (by have:=below_size HB.out;have:=G0.out;omega));have G4:=Aside0.mk hbk;clear hbk hgr;refine wpListIn_nil ?_;exact HK.out _ _ (keepsFrom_of FR.out.1 fun k ob h _=>blk_fresh h FR.out) (fun k cs t h _=>blk_fresh h FR.out) ⟨u,⟨blk_fresh BK.out FR.out⟩,⟨blk_fresh B1.out FR.out⟩,⟨R_fresh HG.out FR.out⟩,⟨R_fresh HO.out FR.out⟩,HB4⟩ ⟨g,rfl,G4.out⟩
  case body=>
    clear BK B1 HG HO HB BS;rintro l pre x a' W' hlD _ ⟨u,BK,B1,HG,HO,HB⟩ ⟨g,rfl,hg3⟩ hlt;obtain ⟨xi,y⟩:=x;have G3:W'.heap[g]?=some (Obj.cells (goalCells y).toArray 141 (0,0)):=hg3;have k18:W'.cell? ⟨g,18,none⟩=some (.int .i64 y.f3.f0):=(blk_cell G3 18).trans rfl;have k19:W'.cell? ⟨g,18+1,none⟩=some (.int .i64 y.f3.f1):=(blk_cell G3 19).trans rfl;have k20:W'.cell? ⟨g,18+2,none⟩=some (.int .i64 y.f3.f2):=(blk_cell G3 20).trans rfl;have k2:W'.cell? ⟨g,2,none⟩=some (.int .i64 y.f0.f2.f0):=(blk_cell G3 2).trans rfl;have k3:W'.cell? ⟨g,2+1,none⟩=some (.int .i64 y.f0.f2.f1):=(blk_cell G3 3).trans rfl;have k4:W'.cell? ⟨g,2+2,none⟩=some (.int .i64 y.f0.f2.f2):=(blk_cell G3 4).trans rfl;have k0:W'.cell? ⟨g,0,none⟩=some (.string y.f0.f0):=(blk_cell G3 0).trans rfl;have cb1:W'.cell? ⟨gb1,0,none⟩=some (.pointer (some ⟨b,0,none⟩)):=(blk_cell B1.out 0).trans rfl;have HLP:=Aside0.mk hlt;clear G3 hg3 hlt hlD
    cases hne:neG y.f3 y.f0.f2 with
    | false =>
      have he:eqV y.f3.f0 y.f3.f1 y.f3.f2 y.f0.f2.f0 y.f0.f2.f1 y.f0.f2.f2=true:=by rw [neG_eqV] at hne;simpa using hne
      have HRS:Aside0 (lowerG y=[]):=⟨by unfold lowerG;rw [if_neg (by rw [hne];simp)]⟩;clear hne
      gi_wp2
      exact ⟨keepsFrom_of (Nat.le_refl _) fun k ob h _=>h,fun k cs t h _=>h,u,BK,B1,HG,⟨by rw [List.map_append,List.map_cons,List.map_nil,flat_snoc,HRS.out,List.append_nil];exact HO.out⟩,HB⟩
    | true =>
      have he:eqV y.f3.f0 y.f3.f1 y.f3.f2 y.f0.f2.f0 y.f0.f2.f1 y.f0.f2.f2=false:=by rw [neG_eqV] at hne;simpa using hne
      have HRS:Aside0 (lowerG y=[⟨2,y.f0.f0,⟨#[]⟩,y.f0.f2⟩]):=⟨by unfold lowerG;rw [if_pos hne]⟩;clear hne
      gi_wp2_with (refine ⟨trivial, ?_⟩;gi_at_call 126;refine (CallsIn.inRound l (callsIn_wide.2 (planPut_calls w _ b _ _ _ _ (⟨2,y.f0.f0,⟨#[]⟩,y.f0.f2⟩:S76) BK.out GE.out HB.out HO.out (by rw [List.length_append];have:=HLN.out;have:=lowerG_len (pre.map (·.2));have:=HLP.out;rw [List.length_map] at*;omega)))).mono ?_;rintro e w6 ⟨rfl,vo',hbk,ho,hb,hk⟩;have KF:=am_ (keepS_from (B:=w2.heap.size) BK.out hk);have KG:=am_ (keepS_goal BK.out hk);have B16:=am_ (hk.1 _ _ B1.out (fun e=>by have h1:=BK.out;rw [←e,B1.out] at h1;cases h1) (fun cs e=>by cases e));have HG6:=am_ (R_keepG HG.out KG.out);have BK6:=Aside0.mk hbk;have HO6:=Aside0.mk ho;have HB6:=Aside0.mk hb;clear hbk ho hb hk)
      exact ⟨KF.out,KG.out,vo',BK6,B16,HG6,⟨by rw [List.map_append,List.map_cons,List.map_nil,flat_snoc,HRS.out,←List.append_assoc];exact HO6.out⟩,HB6⟩
  case done=>
    clear BK B1 HG HO HB BS;rintro D xs W' hD rfl ⟨u,BK,B1,HG,HO,HB⟩ hK
    gi_wp2
    refine ⟨by simp, .inl ⟨_,_,rfl,run_takeDeferred hK, ?_⟩⟩;have hgr:=grownBy_putObj' W' D (.deferred none)
    have hr: ∀r,some D=some r→w2.heap.size≤r∧ ∃o:Obj,W'.heap[r]?=some o∧o.isCells=false:=fun r e=>by
      cases e;exact ⟨hD,_,hK,rfl⟩
    refine ⟨_,results_none rfl _ _ _,rfl,u,blk_own BK.out hgr hr,R_ownf HG.out hgr hr, ?_,pw_below_grown HB.out (some D) (below_size HB.out) hgr (fun k e=>by have:=(hr k e).1;have:=HS2.out;omega)⟩;have q:=R_ownf HO.out hgr hr;rw [backTo_all] at q;exact q
  case stop=>
    rintro D c pre W _ _ h _;exact h.elim
end Go.Proofs.Ytahidkjncljkaaa.Print

namespace Go.Proofs.Ytahidkjncljkaaa.Print
open Go.Shelf Go.RowKit Go.Lib Go.Sort
open Go.Proofs.YtahidkjncljkaaaW.PrintWords Go.Proofs.YtahidkjncljkaaaW.PrintLast Go.Proofs.YtahidkjncljkaaaW.PrintMore
structure BelowBy (W:World) where
 w:World
 h:Below W.heap.size W w
instance (W:World):Inhabited (BelowBy W):=⟨⟨W,Below.refl _ _⟩⟩
theorem wp_region_quiet_below {P:Program} {id:Nat} {Q:Exit→Act→World→Prop} {a:Act} {W:World} {l:List Oper} (hm:P.follows .mixedOrders=true) (hB:Region.lexB .any l.toArray=true)
  (h:wpQuiet P l.toArray (fun w'=> ∃p:BelowBy W,w'=p.w) (fun a'=> ∀w',(∃p:BelowBy W,w'=p.w)→Q .normal a' w') l a):(Code.region id l.toArray true).wp P Q a W:=
 wp_region_quiet (C:=fun w'=> ∃p:BelowBy W,w'=p.w) hm hB ⟨⟨W.drew,below_drew (Below.refl _ _)⟩,rfl⟩ (by simpa using h)
theorem Calls.below_of {P:Program} {f:FuncId} {args:Array Value} {W:World} {p:BelowBy W} {v:Value}
  (h:Calls P f args p.w fun e w'=>e= .returned v∧Below p.w.heap.size p.w w'):Calls P f args p.w fun e w''=>e= .returned v∧ ∃p':BelowBy W,w''=p'.w:=
 h.mono fun _ w'' ⟨he,hb⟩=>⟨he,⟨w'',below_step p.h hb⟩,rfl⟩
structure SRow (w0:World) (blk cap:Nat) (d:Array ByteArray) (w:World):Prop where
 gb:w0.grownBy w (some blk)
 row: ∃cur:Array Value,w.heap[blk]?=some (Obj.cells cur 9 (0,0))∧cur.size=cap∧cur.toList.take d.size=d.toList.map Value.string
def CmpS (P:Program) (g:Nat) (cb:Array Value) (cf:ByteArray→ByteArray→Int) (w0:World) (blk cap n:Nat):Prop:=
 ∀(d:Array ByteArray) (w:World),d.size=n→SRow w0 blk cap d w→ ∀x y,Calls P g (#[.string x, .string y]++cb) w fun e w'=>e= .returned (.int .i64 (cf x y))∧Below w.heap.size w w'
theorem SRow.lt {w0 w:World} {blk cap:Nat} {d:Array ByteArray} (S:SRow w0 blk cap d w):blk<w.heap.size:=by
 obtain ⟨cur,h,_⟩:=S.row;exact blk_lt h
theorem grownBy_below {w0 w w':World} {row:Option Nat} (h:w0.grownBy w row) (hb:Below w.heap.size w w'):w0.grownBy w' row:=
 ⟨hb.os.trans h.os,hb.tape.trans h.tape,hb.output.trans h.output,Nat.le_trans h.size hb.size,fun k hk hn=>(hb.block k (Nat.lt_of_lt_of_le hk h.size)).trans (h.block k hk hn)⟩
theorem SRow.below {w0 w w':World} {blk cap:Nat} {d:Array ByteArray} (S:SRow w0 blk cap d w) (R:blk<w0.heap.size) (hb:Below w.heap.size w w'):SRow w0 blk cap d w':=by
 obtain ⟨cur,h,hs,ht⟩:=S.row;exact ⟨grownBy_below S.gb hb,cur,blk_below h hb,hs,ht⟩
theorem SRow.get {w0 w:World} {blk cap:Nat} {d:Array ByteArray} (S:SRow w0 blk cap d w) (i:Nat) (hi:i<d.size):w.cell? ⟨blk,i,none⟩=some (.string d[i]!):=by
 obtain ⟨cur,h,hs,ht⟩:=S.row;rw [blk_cell h i];have e:(cur.toList.take d.size)[i]?=(d.toList.map Value.string)[i]?:=by rw [ht]
 rw [List.getElem?_take_of_lt hi,Array.getElem?_toList,List.getElem?_map,Array.getElem?_toList,Array.getElem?_eq_getElem hi] at e;rw [e,getElem!_pos d i hi]
 rfl
theorem SRow.ld {w0 w:World} {blk cap:Nat} {d:Array ByteArray} (S:SRow w0 blk cap d w) (R:blk<w0.heap.size) (i:Nat) (hi:i<d.size): ∀p:BelowBy w,p.w.cell? ⟨blk,i,none⟩=some (.string d[i]!):=fun p=>(S.below R p.h).get i hi
theorem SRow.cmp {P:Program} {g n:Nat} {cb:Array Value} {cf:ByteArray→ByteArray→Int} {w0 w:World} {blk cap:Nat} {d:Array ByteArray} (S:SRow w0 blk cap d w) (R:blk<w0.heap.size) (hC:CmpS P g cb cf w0 blk cap n) (hn:d.size=n) (p:BelowBy w) (x y:ByteArray):
 Calls P g (#[.string x, .string y]++cb) p.w fun e w'=>e= .returned (.int .i64 (cf x y))∧Below p.w.heap.size p.w w':=hC d p.w hn (S.below R p.h) x y
theorem SRow.ld1 {w0 w:World} {blk cap:Nat} {d:Array ByteArray} (S:SRow w0 blk cap d w) (i:Nat) (hi:i<d.size):w.drew.cell? ⟨blk,i,none⟩=some (.string d[i]!):=S.get i hi
theorem SRow.fr1 {w0 w:World} {blk cap:Nat} {d:Array ByteArray} (S:SRow w0 blk cap d w) (i:Nat):w.drew.frozen? ⟨blk,i,none⟩=false:=by
 obtain ⟨cur,h,hs,ht⟩:=S.row;exact blk_frozen h i
theorem setCell_blk {w:World} {blk i:Nat} {cur:Array Value} {t:TypeId} {u:Value} (h:w.heap[blk]?=some (Obj.cells cur t (0,0))):(w.setCell ⟨blk,i,none⟩ u).heap[blk]?=some (Obj.cells (cur.setIfInBounds i u) t (0,0)):=by
 show (w.heap.modify blk _)[blk]?=_
 rw [Array.getElem?_modify,if_pos rfl,h]
 rfl
theorem SRow.st2 {w0 w:World} {blk cap:Nat} {d:Array ByteArray} (S:SRow w0 blk cap d w) (i j:Nat) (hj:j<d.size) (u:Value): ∃u',(w.setCell ⟨blk,i,none⟩ u).drew.cell? ⟨blk,j,none⟩=some u':=by
 obtain ⟨cur,h,hs,ht⟩:=S.row
 have hc:d.size≤cur.size:=by
  have:=congrArg List.length ht
  rw [List.length_take,List.length_map,Array.length_toList,Array.length_toList] at this
  omega
 have h2:=setCell_blk (i:=i) (u:=u) h;have h3:(w.setCell ⟨blk,i,none⟩ u).drew.cell? ⟨blk,j,none⟩=(cur.setIfInBounds i u)[j]?:=blk_cell h2 j;exact ⟨_,h3.trans (Array.getElem?_eq_getElem (by rw [Array.size_setIfInBounds];omega))⟩
theorem SRow.fr2 {w0 w:World} {blk cap:Nat} {d:Array ByteArray} (S:SRow w0 blk cap d w) (i j:Nat) (u:Value):(w.setCell ⟨blk,i,none⟩ u).drew.frozen? ⟨blk,j,none⟩=false:=by
 obtain ⟨cur,h,hs,ht⟩:=S.row;exact blk_frozen (setCell_blk (i:=i) (u:=u) h) j
theorem SRow.swapped {w0 w:World} {blk cap:Nat} {d:Array ByteArray} (S:SRow w0 blk cap d w) (R:blk<w0.heap.size) (i j:Nat) (hi:i<d.size) (hj:j<d.size):
    SRow w0 blk cap (swp d i j) ((w.drew.setCell ⟨blk,i,none⟩ (.string d[j]!)).setCell ⟨blk,j,none⟩ (.string d[i]!)):=by
  obtain ⟨cur,h,hs,ht⟩:=S.row;have h1:w.drew.heap[blk]?=some (Obj.cells cur 9 (0,0)):=h;have h2:=setCell_blk (i:=i) (u:= .string d[j]!) h1;have h3:=setCell_blk (i:=j) (u:= .string d[i]!) h2;refine ⟨⟨S.gb.os,S.gb.tape,S.gb.output, ?_,fun k hk hn=> ?_⟩,_,h3, ?_, ?_⟩
  · have := S.gb.size
    simpa using this
  · have hne : k ≠ blk := fun e => hn (by rw [e])
    rw [Below.heap_setCell _ _ _ k hne,Below.heap_setCell _ _ _ k hne]
    exact S.gb.block k hk hn
  · simp [hs]
  rw [size_swp];simp only [swp,Array.toList_setIfInBounds,List.take_set,ht,List.map_set]
structure SortTS (P:Program):Prop where
 mixed:P.follows .mixedOrders=true
 t0:P.underlying 0=some (TypeDesc.tuple #[])
 a0: ∀w,(isAgg 0).run P w= .ok false w
 z0: ∀w,(Go.sizeOf 0).run P w= .ok 1 w
 v0: ∀w,(zeroValue 0).run P w= .ok (Value.tuple #[]) w
 t3:P.underlying 3=some (TypeDesc.int IntKind.i64)
 a3: ∀w,(isAgg 3).run P w= .ok false w
 z3: ∀w,(Go.sizeOf 3).run P w= .ok 1 w
 v3: ∀w,(zeroValue 3).run P w= .ok (Value.int IntKind.i64 0) w
 t4:P.underlying 4=some (TypeDesc.bool)
 a4: ∀w,(isAgg 4).run P w= .ok false w
 z4: ∀w,(Go.sizeOf 4).run P w= .ok 1 w
 v4: ∀w,(zeroValue 4).run P w= .ok (Value.bool false) w
 t5:P.underlying 207=some (TypeDesc.int IntKind.u64)
 a5: ∀w,(isAgg 207).run P w= .ok false w
 z5: ∀w,(Go.sizeOf 207).run P w= .ok 1 w
 v5: ∀w,(zeroValue 207).run P w= .ok (Value.int IntKind.u64 0) w
 t22:P.underlying 85=some (TypeDesc.slice 9)
 a22: ∀w,(isAgg 85).run P w= .ok false w
 z22: ∀w,(Go.sizeOf 85).run P w= .ok 1 w
 v22: ∀w,(zeroValue 85).run P w= .ok (Value.slice none 0 0) w
 t25:P.underlying 120=some (TypeDesc.func #[9,9] #[3] false)
 a25: ∀w,(isAgg 120).run P w= .ok false w
 z25: ∀w,(Go.sizeOf 120).run P w= .ok 1 w
 v25: ∀w,(zeroValue 120).run P w= .ok (Value.nilFunc) w
 tE:P.underlying 9=some (TypeDesc.string)
 aE: ∀w,(isAgg 9).run P w= .ok false w
 zE: ∀w,(Go.sizeOf 9).run P w= .ok 1 w
 vE: ∀w,(zeroValue 9).run P w= .ok (Value.string ⟨#[]⟩) w

set_option maxHeartbeats 4000000 in
set_option maxRecDepth 1000000 in
theorem swapRange_s {P:Program} (F:P.funcs[179]?=some Try.f179) (L:SortTS P) (g:Nat) (cb:Array Value) (blk cap a b n:Nat) (d0 d:Array ByteArray) (w0 w:World)
    (R:blk<w0.heap.size) (hs:d0.size=d.size) (S:SRow w0 blk cap d w) (hab:a+n≤b) (hb:b+n≤d.size) (hsz:d.size<4611686018427387904):
    Calls P 179 #[.slice (some ⟨blk,0,none⟩) d.size cap, .int .i64 a, .int .i64 b, .int .i64 n, .func (.func g) #[] cb] w fun e w'=>e= .returned (.tuple #[])∧ ∃d',SRow w0 blk cap d' w'∧SwapAt a b n d d'∧PermIn a (b+n) d d':=by
  have mixed:=L.mixed;have t0:=L.t0;have a0:=L.a0;have z0:=L.z0;have v0:=L.v0;have t3:=L.t3;have a3:=L.a3;have z3:=L.z3;have v3:=L.v3;have t4:=L.t4;have a4:=L.a4;have z4:=L.z4;have v4:=L.v4;have t5:=L.t5;have a5:=L.a5;have z5:=L.z5;have v5:=L.v5;have t22:=L.t22;have a22:=L.a22;have z22:=L.z22;have v22:=L.v22;have t25:=L.t25;have a25:=L.a25;have z25:=L.z25;have v25:=L.v25;have tE:=L.tE;have aE:=L.aE;have zE:=L.zE;have vE:=L.vE;have u0:=run_underlying L.t0;have u3:=run_underlying L.t3;have u4:=run_underlying L.t4;have u5:=run_underlying L.t5;have u22:=run_underlying L.t22;have uE:=run_underlying L.tE;have S0:Aside (SRow w0 blk cap d w):=S;clear S;go_enter F,Try.ntmps179;go_wp2
  go_loopg [10] n (fun kx s10 wr=> ∃(i:Nat) (dk:Array ByteArray),s10= .int .i64 i∧i≤n∧n - i≤kx∧dk.size=d.size∧Aside (SRow w0 blk cap dk wr)∧Hid (SwapAt a b i d dk∧PermIn a (b+n) d dk))
  case atStart=>exact ⟨0,d,rfl,by omega,by omega,rfl,S0,(⟨swapAt_zero _ _ _,permIn_refl _ _ _⟩:_∧_)⟩
  case round=>
    clear S0;obtain ⟨i,dk,rfl,hin,hkx,hds,S1,HH⟩:=hrel;by_cases hlt:i<n;rotate_left
    · have hltz : ¬ (i : Int) < (n : Int) := by omega
      obtain rfl:i=n:=by omega
      go_wp2
      go_end0
      exact ⟨rfl,dk,S1.out,HH.out.1,HH.out.2⟩
    have hltz:(i:Int)<(n:Int):=by omega
    go_wp2_with fail
    have eaq:((a:Int)+(i:Int)).toNat=a+i:=by omega
    have paq:(0:Int)≤(a:Int)+(i:Int):=by omega
    have baq:(a:Int)+(i:Int)<(d.size:Int):=by omega
    have raq:IntKind.i64.wrap ((a:Int)+(i:Int))=(a:Int)+(i:Int):=by rw [IntKind.wrap_i64];omega
    have ecq:((b:Int)+(i:Int)).toNat=b+i:=by omega
    have pcq:(0:Int)≤(b:Int)+(i:Int):=by omega
    have bcq:(b:Int)+(i:Int)<(d.size:Int):=by omega
    have rcq:IntKind.i64.wrap ((b:Int)+(i:Int))=(b:Int)+(i:Int):=by rw [IntKind.wrap_i64];omega
    have S2:Aside (SRow w0 blk cap (swp dk (a+i) (b+i)) ((wr.setCell ⟨blk,a+i,none⟩ (.string dk[b+i]!)).setCell ⟨blk,b+i,none⟩ (.string dk[a+i]!)).drew):=S1.out.swapped R (a+i) (b+i) (by omega) (by omega);have laq:wr.drew.cell? ⟨blk,a+i,none⟩=some (.string dk[a+i]!):=S1.out.ld1 (a+i) (by omega);have lbq:wr.drew.cell? ⟨blk,b+i,none⟩=some (.string dk[b+i]!):=S1.out.ld1 (b+i) (by omega);have saq:wr.drew.frozen? ⟨blk,a+i,none⟩=false:=S1.out.fr1 (a+i);have sbq:wr.drew.frozen? ⟨blk,b+i,none⟩=false:=S1.out.fr1 (b+i);obtain ⟨u2q,scq⟩:=S1.out.st2 (a+i) (b+i) (by omega) (.string dk[b+i]!);have sdq:=S1.out.fr2 (a+i) (b+i) (.string dk[b+i]!);generalize dk[a+i]! =cIq at S2 laq;generalize dk[b+i]! =cJq at S2 lbq scq sdq;clear S1;go_wp2_with fail
    go_big_region_o
    clear laq lbq saq sbq;generalize ((wr.setCell ⟨blk,a+i,none⟩ (.string cJq)).setCell ⟨blk,b+i,none⟩ (.string cIq)).drew=w2 at S2 ⊢;go_wp2
    go_roundg (n - (i+1))
    case measure=>omega
    case rel=>
      have HH2:Hid (SwapAt a b (i+1) d (swp dk (a+i) (b+i))∧PermIn a (b+n) d (swp dk (a+i) (b+i))):=(⟨swapAt_step HH.out.1 (by omega) (by omega),permIn_trans _ _ _ _ _ HH.out.2 (swp_permIn dk a (b+n) (a+i) (b+i) (by omega) (by omega) (by omega) (by omega) (by omega))⟩:_∧_);exact ⟨i+1,swp dk (a+i) (b+i),by go_num,by omega,Nat.le_refl _,by rw [size_swp];exact hds,S2,HH2⟩
set_option maxHeartbeats 4000000 in
set_option maxRecDepth 1000000 in
theorem rotate_s {P:Program} (FS:P.funcs[179]?=some Try.f179) (F:P.funcs[177]?=some Try.f177) (L:SortTS P) (g:Nat) (cb:Array Value) (blk cap a m b:Nat) (d0 d:Array ByteArray) (w0 w:World)
    (R:blk<w0.heap.size) (hs:d0.size=d.size) (S:SRow w0 blk cap d w) (ham:a<m) (hmb:m<b) (hb:b≤d.size) (hsz:d.size<4611686018427387904):
    Calls P 177 #[.slice (some ⟨blk,0,none⟩) d.size cap, .int .i64 a, .int .i64 m, .int .i64 b, .func (.func g) #[] cb] w fun e w'=>e= .returned (.tuple #[])∧ ∃d',SRow w0 blk cap d' w'∧RotAt a m b d d'∧PermIn a b d d':=by
  have mixed:=L.mixed;have t0:=L.t0;have a0:=L.a0;have z0:=L.z0;have v0:=L.v0;have t3:=L.t3;have a3:=L.a3;have z3:=L.z3;have v3:=L.v3;have t4:=L.t4;have a4:=L.a4;have z4:=L.z4;have v4:=L.v4;have t5:=L.t5;have a5:=L.a5;have z5:=L.z5;have v5:=L.v5;have t22:=L.t22;have a22:=L.a22;have z22:=L.z22;have v22:=L.v22;have t25:=L.t25;have a25:=L.a25;have z25:=L.z25;have v25:=L.v25;have tE:=L.tE;have aE:=L.aE;have zE:=L.zE;have vE:=L.vE;have u0:=run_underlying L.t0;have u3:=run_underlying L.t3;have u4:=run_underlying L.t4;have u5:=run_underlying L.t5;have u22:=run_underlying L.t22;have uE:=run_underlying L.tE;have S0:Aside (SRow w0 blk cap d w):=S;clear S;have eS: ∀args w,(callFunc 179 args).run P w= .ok (.enter 179 args) w:=enters_of FS (by kernel_rfl) rfl;go_enter F,Try.ntmps177;go_wp2
  go_loopg [10,11] (b - a) (fun kx s10 s11 wr=> ∃(i j:Nat) (dk:Array ByteArray),s10= .int .i64 i∧s11= .int .i64 j∧0<i∧0<j∧i≤m - a∧j≤b - m∧i+j≤kx∧dk.size=d.size∧Aside (SRow w0 blk cap dk wr)∧Hid ((∀d',RotAt (m - i) m (m+j) dk d'→RotAt a m b d d')∧PermIn a b d dk))
  case atStart=>exact ⟨m - a,b - m,d,by rw [show ((m - a:Nat):Int)=(m:Int) - (a:Int) by omega],by rw [show ((b - m:Nat):Int)=(b:Int) - (m:Int) by omega],by omega,by omega,by omega,by omega,by omega,rfl,S0,(⟨fun d' h=>by rwa [show m - (m - a)=a by omega,show m+(b - m)=b by omega] at h,permIn_refl _ _ _⟩:_∧_)⟩
  case round=>
    clear S0;obtain ⟨i,j,dk,rfl,rfl,hi0,hj0,him,hjm,hkx,hds,S1,HH⟩:=hrel;by_cases hne:i=j
    · subst hne
      have ha':((m - i:Nat):Int)=(m:Int) - (i:Int):=by omega
      have hcall:=swapRange_s FS L g cb blk cap (m - i) m i d0 dk w0 wr R (by omega) S1.out (by omega) (by omega) (by omega)
      rw [ha',hds] at hcall
      clear S1
      have hnz:((i:Int) !=(i:Int))=false:=by simp
      go_wp2_with (go_at_fn 179;refine hcall.mono ?_;rintro e w1 ⟨rfl,d',S2,X,Y⟩;have XX:Hid (SwapAt (m - i) m i dk d'∧PermIn (m - i) (m+i) dk d'):=(⟨X,Y⟩:_∧_);have S3:Aside (SRow w0 blk cap d' w1):=S2;clear X Y S2)
      go_end0
      exact ⟨rfl,d',S3.out,HH.out.1 d' (rot_same (by omega) XX.out.1),permIn_trans _ _ _ _ _ HH.out.2 (permIn_mono dk d' (m - i) (m+i) a b (by omega) (by omega) (by omega) XX.out.2)⟩
    have hnz:((i:Int) !=(j:Int))=true:=by simp;omega
    by_cases hgt:j<i
    · have hgz : (j : Int) < (i : Int) := by omega
      have ha':((m - i:Nat):Int)=(m:Int) - (i:Int):=by omega
      have hcall:=swapRange_s FS L g cb blk cap (m - i) m j d0 dk w0 wr R (by omega) S1.out (by omega) (by omega) (by omega)
      rw [ha',hds] at hcall
      clear S1
      go_wp2_with (go_at_fn 179;refine hcall.mono ?_;rintro e w1 ⟨rfl,d',S2,X,Y⟩;have XX:Hid (SwapAt (m - i) m j dk d'∧PermIn (m - i) (m+j) dk d'):=(⟨X,Y⟩:_∧_);have S3:Aside (SRow w0 blk cap d' w1):=S2;clear X Y S2)
      go_roundg (i - j+j)
      case measure=>omega
      case rel=>
        have hd':d'.size=d.size:=by rw [XX.out.1.1];exact hds
        have HH2:Hid ((∀d2,RotAt (m - (i - j)) m (m+j) d' d2→RotAt a m b d d2)∧PermIn a b d d'):=(⟨fun d2 h=>HH.out.1 d2 (rot_more hgt (by omega) XX.out.1 h),permIn_trans _ _ _ _ _ HH.out.2 (permIn_mono dk d' (m - i) (m+j) a b (by omega) (by omega) (by omega) XX.out.2)⟩:_∧_);exact ⟨i - j,j,d',by rw [show ((i - j:Nat):Int)=(i:Int) - (j:Int) by omega],rfl,by omega,hj0,by omega,hjm,Nat.le_refl _,hd',S3,HH2⟩
    have hgz: ¬(j:Int)<(i:Int):=by omega
    have ha':((m - i:Nat):Int)=(m:Int) - (i:Int):=by omega
    have hb':((m+j - i:Nat):Int)=(m:Int)+(j:Int) - (i:Int):=by omega
    have hcall:=swapRange_s FS L g cb blk cap (m - i) (m+j - i) i d0 dk w0 wr R (by omega) S1.out (by omega) (by omega) (by omega);rw [ha',hb',hds] at hcall;clear S1;go_wp2_with (go_at_fn 179;refine hcall.mono ?_;rintro e w1 ⟨rfl,d',S2,X,Y⟩;have XX:Hid (SwapAt (m - i) (m+j - i) i dk d'∧PermIn (m - i) (m+j - i+i) dk d'):=(⟨X,Y⟩:_∧_);have S3:Aside (SRow w0 blk cap d' w1):=S2;clear X Y S2)
    go_roundg (i+(j - i))
    case measure=>omega
    case rel=>
      have hd':d'.size=d.size:=by rw [XX.out.1.1];exact hds
      have HH2:Hid ((∀d2,RotAt (m - i) m (m+(j - i)) d' d2→RotAt a m b d d2)∧PermIn a b d d'):=(⟨fun d2 h=>HH.out.1 d2 (rot_less (by omega) (by omega) XX.out.1 h),permIn_trans _ _ _ _ _ HH.out.2 (permIn_mono dk d' (m - i) (m+j - i+i) a b (by omega) (by omega) (by omega) XX.out.2)⟩:_∧_);exact ⟨i,j - i,d',rfl,by rw [show ((j - i:Nat):Int)=(j:Int) - (i:Int) by omega],hi0,by omega,him,by omega,Nat.le_refl _,hd',S3,HH2⟩
def SymRS (P:Program) (cf:ByteArray→ByteArray→Int) (g:Nat) (cb:Array Value) (blk cap:Nat) (w0:World) (a m b:Nat) (d:Array ByteArray) (w:World):Prop:=
 Calls P 171 #[.slice (some ⟨blk,0,none⟩) d.size cap, .int .i64 a, .int .i64 m, .int .i64 b, .func (.func g) #[] cb] w fun e w'=>e= .returned (.tuple #[])∧ ∃d',SRow w0 blk cap d' w'∧SortedIn (ltOf cf) a b d'∧PermIn a b d d'
def SymNS (P:Program) (cf:ByteArray→ByteArray→Int) (g:Nat) (cb:Array Value) (blk cap:Nat) (d0:Array ByteArray) (w0:World) (N:Nat):Prop:=
 ∀(a m b:Nat) (d:Array ByteArray) (w:World),b - a≤N→d0.size=d.size→SRow w0 blk cap d w→a<m→m<b→b≤d.size→SortedIn (ltOf cf) a m d→SortedIn (ltOf cf) m b d→SymRS P cf g cb blk cap w0 a m b d w
set_option maxHeartbeats 8000000 in
set_option maxRecDepth 1000000 in
theorem symMerge_oneS {P:Program} (FS:P.funcs[179]?=some Try.f179) (FR:P.funcs[177]?=some Try.f177) (F:P.funcs[171]?=some Try.f171) (L:SortTS P) (cf:ByteArray→ByteArray→Int) (g:Nat) (cb:Array Value) (blk cap:Nat) (d0:Array ByteArray) (w0:World)
    (eg: ∀args w,(callFunc g args).run P w= .ok (.enter g args) w) (hcmp:CmpS P g cb cf w0 blk cap d0.size) (R:blk<w0.heap.size) (hO:SWO (ltOf cf)) (hsz:d0.size<2305843009213693952)
    (a m b:Nat) (d:Array ByteArray) (w:World) (c1:m=a+1) (hs:d0.size=d.size) (S:SRow w0 blk cap d w) (ham:a<m) (hmb:m<b) (hb:b≤d.size) (sA:SortedIn (ltOf cf) a m d) (sB:SortedIn (ltOf cf) m b d):SymRS P cf g cb blk cap w0 a m b d w:=by
  unfold SymRS;have mixed:=L.mixed;have t0:=L.t0;have a0:=L.a0;have z0:=L.z0;have v0:=L.v0;have t3:=L.t3;have a3:=L.a3;have z3:=L.z3;have v3:=L.v3;have t4:=L.t4;have a4:=L.a4;have z4:=L.z4;have v4:=L.v4;have t5:=L.t5;have a5:=L.a5;have z5:=L.z5;have v5:=L.v5;have t22:=L.t22;have a22:=L.a22;have z22:=L.z22;have v22:=L.v22;have t25:=L.t25;have a25:=L.a25;have z25:=L.z25;have v25:=L.v25;have tE:=L.tE;have aE:=L.aE;have zE:=L.zE;have vE:=L.vE;have u0:=run_underlying L.t0;have u3:=run_underlying L.t3;have u4:=run_underlying L.t4;have u5:=run_underlying L.t5;have u22:=run_underlying L.t22;have uE:=run_underlying L.tE;have eR: ∀args w,(callFunc 177 args).run P w= .ok (.enter 177 args) w:=enters_of FR (by kernel_rfl) rfl;have eY: ∀args w,(callFunc 171 args).run P w= .ok (.enter 171 args) w:=enters_of F (by kernel_rfl) rfl;have HC:Aside _:=hcmp;have S0:Aside (SRow w0 blk cap d w):=S;have SS:Hid (SortedIn (ltOf cf) a m d∧SortedIn (ltOf cf) m b d):=(⟨sA,sB⟩:_∧_);clear hcmp S sA sB;have c1z:(m:Int) - (a:Int)=1:=by omega
  have C1:Hid (m=a+1):=c1;clear c1;go_enter F,Try.ntmps171;go_wp2
  go_loopg [10,11] (b - a) (fun kx s10 s11 wr=> ∃lo hi:Nat,s10= .int .i64 lo∧s11= .int .i64 hi∧m≤lo∧lo≤hi∧hi≤b∧hi - lo≤kx∧Aside (SRow w0 blk cap d wr)∧Hid ((lo=m∨ltOf cf d[lo - 1]! d[a]! =true)∧(hi=b∨ltOf cf d[hi]! d[a]! =false)))
  case atStart=>exact ⟨m,b,rfl,rfl,Nat.le_refl _,by omega,Nat.le_refl _,by omega,S0,(⟨.inl rfl, .inl rfl⟩:_∧_)⟩
  case round=>
    clear S0;obtain ⟨lo,hi,rfl,rfl,hml,hlh,hhb,hg,S1,I⟩:=hrel;by_cases hlt:lo<hi;rotate_left
    · obtain rfl : hi = lo := by omega
      have hltz: ¬(hi:Int)<(hi:Int):=by omega
      go_wp2
      go_loopg [13] (b - a) (fun kx s13 wr2=> ∃(q:Nat) (dk:Array ByteArray),s13= .int .i64 q∧a≤q∧q+1≤hi∧hi - q≤kx∧dk.size=d.size∧Aside (SRow w0 blk cap dk wr2)∧Hid (RotAt a (a+1) (q+1) d dk∧PermIn a b d dk))
      case atStart=>exact ⟨a,d,rfl,Nat.le_refl _,by omega,by omega,rfl,S1,(⟨rot_right _ _ _,permIn_refl _ _ _⟩:_∧_)⟩
      case round=>
        clear S1;obtain ⟨q,dk,rfl,haq,hqh,hg2,hds,S1,HH⟩:=hrel;by_cases hq:q+1<hi;rotate_left
        · have hqz : ¬ (q : Int) < (hi : Int) - 1 := by omega
          go_wp2
          (try simp only [Exit.inBlock,Exit.then]);refine bodyPost_ret (results_none rfl _ _ _) rfl ?_
          refine ⟨rfl,dk,S1.out, ?_,HH.out.2⟩
          have hr:=HH.out.1
          rw [show q+1=hi by omega] at hr
          have sB:=SS.out.2
          rw [C1.out] at sB
          have i1:=I.out.1
          rw [C1.out] at i1
          exact ins_left hO hr (by omega) hhb sB (left_lt hO sB hhb i1) (left_ge hO sB (by omega) I.out.2)
        have hqz:(q:Int)<(hi:Int) - 1:=by omega
        go_wp2_with fail
        have eaq:((q:Int)).toNat=q:=by omega
        have paq:(0:Int)≤(q:Int):=by omega
        have baq:(q:Int)<(d.size:Int):=by omega
        have raq:IntKind.i64.wrap ((q:Int))=(q:Int):=by rw [IntKind.wrap_i64];omega
        have ecq:((q:Int)+1).toNat=q+1:=by omega
        have pcq:(0:Int)≤(q:Int)+1:=by omega
        have bcq:(q:Int)+1<(d.size:Int):=by omega
        have rcq:IntKind.i64.wrap ((q:Int)+1)=(q:Int)+1:=by rw [IntKind.wrap_i64];omega
        have S2:Aside (SRow w0 blk cap (swp dk (q) (q+1)) ((wr.setCell ⟨blk,q,none⟩ (.string dk[q+1]!)).setCell ⟨blk,q+1,none⟩ (.string dk[q]!)).drew):=S1.out.swapped R (q) (q+1) (by omega) (by omega);have laq:wr.drew.cell? ⟨blk,q,none⟩=some (.string dk[q]!):=S1.out.ld1 (q) (by omega);have lbq:wr.drew.cell? ⟨blk,q+1,none⟩=some (.string dk[q+1]!):=S1.out.ld1 (q+1) (by omega);have saq:wr.drew.frozen? ⟨blk,q,none⟩=false:=S1.out.fr1 (q);have sbq:wr.drew.frozen? ⟨blk,q+1,none⟩=false:=S1.out.fr1 (q+1);obtain ⟨u2q,scq⟩:=S1.out.st2 (q) (q+1) (by omega) (.string dk[q+1]!);have sdq:=S1.out.fr2 (q) (q+1) (.string dk[q+1]!);generalize dk[q]! =cIq at S2 laq;generalize dk[q+1]! =cJq at S2 lbq scq sdq;clear S1;go_wp2_with fail
        go_big_region_o
        clear laq lbq saq sbq;generalize ((wr.setCell ⟨blk,q,none⟩ (.string cJq)).setCell ⟨blk,q+1,none⟩ (.string cIq)).drew=w3 at S2 ⊢;go_wp2
        go_roundg (hi - (q+1))
        case measure=>omega
        case rel=>
          have HH2:Hid (RotAt a (a+1) (q+1+1) d (swp dk q (q+1))∧PermIn a b d (swp dk q (q+1))):=(⟨rot_up HH.out.1 haq (by omega),permIn_trans _ _ _ _ _ HH.out.2 (swp_permIn dk a b q (q+1) (by omega) (by omega) (by omega) (by omega) (by omega))⟩:_∧_);exact ⟨q+1,swp dk q (q+1),by go_num,by omega,by omega,Nat.le_refl _,by rw [size_swp];exact hds,S2,HH2⟩
    have hltz:(lo:Int)<(hi:Int):=by omega
    cases hlv:ltOf cf d[(lo+hi) / 2]! d[a]! with
    | true =>
      have eaht:(((lo:Int)+(hi:Int)) / 2).toNat=(lo+hi) / 2:=by omega
      have paht:(0:Int)≤((lo:Int)+(hi:Int)) / 2:=by omega
      have baht:((lo:Int)+(hi:Int)) / 2<(d.size:Int):=by omega
      have raht:IntKind.i64.wrap (((lo:Int)+(hi:Int)) / 2)=((lo:Int)+(hi:Int)) / 2:=by rw [IntKind.wrap_i64];omega
      have echt:((a:Int)).toNat=a:=by omega
      have pcht:(0:Int)≤(a:Int):=by omega
      have bcht:(a:Int)<(d.size:Int):=by omega
      have rcht:IntKind.i64.wrap ((a:Int))=(a:Int):=by rw [IntKind.wrap_i64];omega
      obtain ⟨xht,hxht⟩: ∃x,x=d[(lo+hi) / 2]!:=⟨_,rfl⟩;obtain ⟨yht,hyht⟩: ∃x,x=d[a]!:=⟨_,rfl⟩;have laht: ∀p:BelowBy wr,p.w.cell? ⟨blk,(lo+hi) / 2,none⟩=some (.string d[(lo+hi) / 2]!):=S1.out.ld R ((lo+hi) / 2) (by omega);have lbht: ∀p:BelowBy wr,p.w.cell? ⟨blk,a,none⟩=some (.string d[a]!):=S1.out.ld R (a) (by omega);rw [←hxht] at laht;rw [←hyht] at lbht;have hcht:=fun p:BelowBy wr=>S1.out.cmp R HC.out (by omega) p xht yht
      have hvht:cf xht yht<0:=by rw [hxht,hyht];exact of_decide_eq_true hlv
      have hdht:decide (cf xht yht<0)=true:=decide_eq_true hvht;clear hxht hyht;go_wp2_with fail
      refine wp_region_quiet_below (by assumption) (by kernel_rfl) ?_
      repeat (quiet_step (first|(go_at_fn g;refine Calls.below_of (hcht _))))
      refine wpQuiet_nil ?_;intro _ hw';obtain ⟨p,hw''⟩:=hw';subst hw'';have S2:Aside (SRow w0 blk cap d p.w):=S1.out.below R p.h;clear laht lbht hcht S1;generalize p.w=w2 at S2 ⊢;clear p;go_wp2
      go_roundg (hi - ((lo+hi) / 2+1))
      case measure=>omega
      case rel=>
        have I2:Hid ((((lo+hi) / 2+1)=m∨ltOf cf d[((lo+hi) / 2+1) - 1]! d[a]! =true)∧(hi=b∨ltOf cf d[hi]! d[a]! =false)):=(⟨.inr hlv,I.out.2⟩:_∧_);exact ⟨(lo+hi) / 2+1,hi,by rw [show ((lo:Int)+(hi:Int)) / 2+1=(((lo+hi) / 2+1:Nat):Int) by omega],rfl,by omega,by omega,by omega,Nat.le_refl _,S2,I2⟩
    | false =>
      have eahf:(((lo:Int)+(hi:Int)) / 2).toNat=(lo+hi) / 2:=by omega
      have pahf:(0:Int)≤((lo:Int)+(hi:Int)) / 2:=by omega
      have bahf:((lo:Int)+(hi:Int)) / 2<(d.size:Int):=by omega
      have rahf:IntKind.i64.wrap (((lo:Int)+(hi:Int)) / 2)=((lo:Int)+(hi:Int)) / 2:=by rw [IntKind.wrap_i64];omega
      have echf:((a:Int)).toNat=a:=by omega
      have pchf:(0:Int)≤(a:Int):=by omega
      have bchf:(a:Int)<(d.size:Int):=by omega
      have rchf:IntKind.i64.wrap ((a:Int))=(a:Int):=by rw [IntKind.wrap_i64];omega
      obtain ⟨xhf,hxhf⟩: ∃x,x=d[(lo+hi) / 2]!:=⟨_,rfl⟩;obtain ⟨yhf,hyhf⟩: ∃x,x=d[a]!:=⟨_,rfl⟩;have lahf: ∀p:BelowBy wr,p.w.cell? ⟨blk,(lo+hi) / 2,none⟩=some (.string d[(lo+hi) / 2]!):=S1.out.ld R ((lo+hi) / 2) (by omega);have lbhf: ∀p:BelowBy wr,p.w.cell? ⟨blk,a,none⟩=some (.string d[a]!):=S1.out.ld R (a) (by omega);rw [←hxhf] at lahf;rw [←hyhf] at lbhf;have hchf:=fun p:BelowBy wr=>S1.out.cmp R HC.out (by omega) p xhf yhf
      have hvhf: ¬cf xhf yhf<0:=by rw [hxhf,hyhf];exact of_decide_eq_false hlv
      have hdhf:decide (cf xhf yhf<0)=false:=decide_eq_false hvhf;clear hxhf hyhf;go_wp2_with fail
      refine wp_region_quiet_below (by assumption) (by kernel_rfl) ?_
      repeat (quiet_step (first|(go_at_fn g;refine Calls.below_of (hchf _))))
      refine wpQuiet_nil ?_;intro _ hw';obtain ⟨p,hw''⟩:=hw';subst hw'';have S2:Aside (SRow w0 blk cap d p.w):=S1.out.below R p.h;clear lahf lbhf hchf S1;generalize p.w=w2 at S2 ⊢;clear p;go_wp2
      go_roundg ((lo+hi) / 2 - lo)
      case measure=>omega
      case rel=>
        have I2:Hid ((lo=m∨ltOf cf d[lo - 1]! d[a]! =true)∧(((lo+hi) / 2)=b∨ltOf cf d[((lo+hi) / 2)]! d[a]! =false)):=(⟨I.out.1, .inr hlv⟩:_∧_);exact ⟨lo,(lo+hi) / 2,rfl,by rw [show ((lo:Int)+(hi:Int)) / 2=(((lo+hi) / 2:Nat):Int) by omega],by omega,by omega,by omega,Nat.le_refl _,S2,I2⟩
set_option maxHeartbeats 8000000 in
set_option maxRecDepth 1000000 in
theorem symMerge_lastS {P:Program} (FS:P.funcs[179]?=some Try.f179) (FR:P.funcs[177]?=some Try.f177) (F:P.funcs[171]?=some Try.f171) (L:SortTS P) (cf:ByteArray→ByteArray→Int) (g:Nat) (cb:Array Value) (blk cap:Nat) (d0:Array ByteArray) (w0:World)
    (eg: ∀args w,(callFunc g args).run P w= .ok (.enter g args) w) (hcmp:CmpS P g cb cf w0 blk cap d0.size) (R:blk<w0.heap.size) (hO:SWO (ltOf cf)) (hsz:d0.size<2305843009213693952)
    (a m b:Nat) (d:Array ByteArray) (w:World) (c1: ¬m=a+1) (c2:b=m+1) (hs:d0.size=d.size) (S:SRow w0 blk cap d w) (ham:a<m) (hmb:m<b) (hb:b≤d.size) (sA:SortedIn (ltOf cf) a m d) (sB:SortedIn (ltOf cf) m b d):SymRS P cf g cb blk cap w0 a m b d w:=by
  unfold SymRS;have mixed:=L.mixed;have t0:=L.t0;have a0:=L.a0;have z0:=L.z0;have v0:=L.v0;have t3:=L.t3;have a3:=L.a3;have z3:=L.z3;have v3:=L.v3;have t4:=L.t4;have a4:=L.a4;have z4:=L.z4;have v4:=L.v4;have t5:=L.t5;have a5:=L.a5;have z5:=L.z5;have v5:=L.v5;have t22:=L.t22;have a22:=L.a22;have z22:=L.z22;have v22:=L.v22;have t25:=L.t25;have a25:=L.a25;have z25:=L.z25;have v25:=L.v25;have tE:=L.tE;have aE:=L.aE;have zE:=L.zE;have vE:=L.vE;have u0:=run_underlying L.t0;have u3:=run_underlying L.t3;have u4:=run_underlying L.t4;have u5:=run_underlying L.t5;have u22:=run_underlying L.t22;have uE:=run_underlying L.tE;have eR: ∀args w,(callFunc 177 args).run P w= .ok (.enter 177 args) w:=enters_of FR (by kernel_rfl) rfl;have eY: ∀args w,(callFunc 171 args).run P w= .ok (.enter 171 args) w:=enters_of F (by kernel_rfl) rfl;have HC:Aside _:=hcmp;have S0:Aside (SRow w0 blk cap d w):=S;have SS:Hid (SortedIn (ltOf cf) a m d∧SortedIn (ltOf cf) m b d):=(⟨sA,sB⟩:_∧_);clear hcmp S sA sB;have c1z:((m:Int) - (a:Int)==1)=false:=by simp;omega
  have c2z:(b:Int) - (m:Int)=1:=by omega
  have C2:Hid (b=m+1):=c2;clear c2;go_enter F,Try.ntmps171;go_wp2
  go_loopg [14,15] (b - a) (fun kx s10 s11 wr=> ∃lo hi:Nat,s10= .int .i64 lo∧s11= .int .i64 hi∧a≤lo∧lo≤hi∧hi≤m∧hi - lo≤kx∧Aside (SRow w0 blk cap d wr)∧Hid ((lo=a∨ltOf cf d[m]! d[lo - 1]! =false)∧(hi=m∨ltOf cf d[m]! d[hi]! =true)))
  case atStart=>exact ⟨a,m,rfl,rfl,Nat.le_refl _,by omega,Nat.le_refl _,by omega,S0,(⟨.inl rfl, .inl rfl⟩:_∧_)⟩
  case round=>
    clear S0;obtain ⟨lo,hi,rfl,rfl,hml,hlh,hhb,hg,S1,I⟩:=hrel;by_cases hlt:lo<hi;rotate_left
    · obtain rfl : hi = lo := by omega
      have hltz: ¬(hi:Int)<(hi:Int):=by omega
      go_wp2
      go_loopg [17] (b - a) (fun kx s17 wr2=> ∃(q:Nat) (dk:Array ByteArray),s17= .int .i64 q∧hi≤q∧q≤m∧q - hi≤kx∧dk.size=d.size∧Aside (SRow w0 blk cap dk wr2)∧Hid (RotAt q m (m+1) d dk∧PermIn a b d dk))
      case atStart=>exact ⟨m,d,rfl,by omega,Nat.le_refl _,by omega,rfl,S1,(⟨rot_left _ _ _,permIn_refl _ _ _⟩:_∧_)⟩
      case round=>
        clear S1;obtain ⟨q,dk,rfl,haq,hqh,hg2,hds,S1,HH⟩:=hrel;by_cases hq:hi<q;rotate_left
        · have hqz : ¬ (hi : Int) < (q : Int) := by omega
          go_wp2
          (try simp only [Exit.inBlock,Exit.then]);refine bodyPost_ret (results_none rfl _ _ _) rfl ?_
          refine ⟨rfl,dk,S1.out, ?_,HH.out.2⟩
          have hr:=HH.out.1
          rw [show q=hi by omega] at hr
          rw [C2.out]
          exact ins_right_ hO hr hml hhb SS.out.1 (right_le hO SS.out.1 hhb I.out.1) (right_gt hO SS.out.1 hml I.out.2)
        obtain ⟨q,rfl⟩: ∃p,q=p+1:=⟨q - 1,by omega⟩;have hqz:(hi:Int)<(q:Int)+1:=by omega
        go_wp2_with fail
        have eaq:((q:Int)+1).toNat=q+1:=by omega
        have paq:(0:Int)≤(q:Int)+1:=by omega
        have baq:(q:Int)+1<(d.size:Int):=by omega
        have raq:IntKind.i64.wrap ((q:Int)+1)=(q:Int)+1:=by rw [IntKind.wrap_i64];omega
        have ecq:((q:Int)).toNat=q:=by omega
        have pcq:(0:Int)≤(q:Int):=by omega
        have bcq:(q:Int)<(d.size:Int):=by omega
        have rcq:IntKind.i64.wrap ((q:Int))=(q:Int):=by rw [IntKind.wrap_i64];omega
        have S2:Aside (SRow w0 blk cap (swp dk (q+1) (q)) ((wr.setCell ⟨blk,q+1,none⟩ (.string dk[q]!)).setCell ⟨blk,q,none⟩ (.string dk[q+1]!)).drew):=S1.out.swapped R (q+1) (q) (by omega) (by omega);have laq:wr.drew.cell? ⟨blk,q+1,none⟩=some (.string dk[q+1]!):=S1.out.ld1 (q+1) (by omega);have lbq:wr.drew.cell? ⟨blk,q,none⟩=some (.string dk[q]!):=S1.out.ld1 (q) (by omega);have saq:wr.drew.frozen? ⟨blk,q+1,none⟩=false:=S1.out.fr1 (q+1);have sbq:wr.drew.frozen? ⟨blk,q,none⟩=false:=S1.out.fr1 (q);obtain ⟨u2q,scq⟩:=S1.out.st2 (q+1) (q) (by omega) (.string dk[q]!);have sdq:=S1.out.fr2 (q+1) (q) (.string dk[q]!);generalize dk[q+1]! =cIq at S2 laq;generalize dk[q]! =cJq at S2 lbq scq sdq;clear S1;go_wp2_with fail
        go_big_region_o
        clear laq lbq saq sbq;generalize ((wr.setCell ⟨blk,q+1,none⟩ (.string cJq)).setCell ⟨blk,q,none⟩ (.string cIq)).drew=w3 at S2 ⊢;go_wp2
        go_roundg (q - hi)
        case measure=>omega
        case rel=>
          have HH2:Hid (RotAt q m (m+1) d (swp dk (q+1) q)∧PermIn a b d (swp dk (q+1) q)):=(⟨rot_down HH.out.1 (by omega) (by omega),permIn_trans _ _ _ _ _ HH.out.2 (swp_permIn dk a b (q+1) q (by omega) (by omega) (by omega) (by omega) (by omega))⟩:_∧_);exact ⟨q,swp dk (q+1) q,by go_num,by omega,by omega,Nat.le_refl _,by rw [size_swp];exact hds,S2,HH2⟩
    have hltz:(lo:Int)<(hi:Int):=by omega
    cases hlv:ltOf cf d[m]! d[(lo+hi) / 2]! with
    | true =>
      have eaht:((m:Int)).toNat=m:=by omega
      have paht:(0:Int)≤(m:Int):=by omega
      have baht:(m:Int)<(d.size:Int):=by omega
      have raht:IntKind.i64.wrap ((m:Int))=(m:Int):=by rw [IntKind.wrap_i64];omega
      have echt:(((lo:Int)+(hi:Int)) / 2).toNat=(lo+hi) / 2:=by omega
      have pcht:(0:Int)≤((lo:Int)+(hi:Int)) / 2:=by omega
      have bcht:((lo:Int)+(hi:Int)) / 2<(d.size:Int):=by omega
      have rcht:IntKind.i64.wrap (((lo:Int)+(hi:Int)) / 2)=((lo:Int)+(hi:Int)) / 2:=by rw [IntKind.wrap_i64];omega
      obtain ⟨xht,hxht⟩: ∃x,x=d[m]!:=⟨_,rfl⟩;obtain ⟨yht,hyht⟩: ∃x,x=d[(lo+hi) / 2]!:=⟨_,rfl⟩;have laht: ∀p:BelowBy wr,p.w.cell? ⟨blk,m,none⟩=some (.string d[m]!):=S1.out.ld R (m) (by omega);have lbht: ∀p:BelowBy wr,p.w.cell? ⟨blk,(lo+hi) / 2,none⟩=some (.string d[(lo+hi) / 2]!):=S1.out.ld R ((lo+hi) / 2) (by omega);rw [←hxht] at laht;rw [←hyht] at lbht;have hcht:=fun p:BelowBy wr=>S1.out.cmp R HC.out (by omega) p xht yht
      have hvht:cf xht yht<0:=by rw [hxht,hyht];exact of_decide_eq_true hlv
      have hdht:decide (cf xht yht<0)=true:=decide_eq_true hvht;clear hxht hyht;go_wp2_with fail
      refine wp_region_quiet_below (by assumption) (by kernel_rfl) ?_
      repeat (quiet_step (first|(go_at_fn g;refine Calls.below_of (hcht _))))
      refine wpQuiet_nil ?_;intro _ hw';obtain ⟨p,hw''⟩:=hw';subst hw'';have S2:Aside (SRow w0 blk cap d p.w):=S1.out.below R p.h;clear laht lbht hcht S1;generalize p.w=w2 at S2 ⊢;clear p;go_wp2
      go_roundg ((lo+hi) / 2 - lo)
      case measure=>omega
      case rel=>
        have I2:Hid ((lo=a∨ltOf cf d[m]! d[lo - 1]! =false)∧(((lo+hi) / 2)=m∨ltOf cf d[m]! d[((lo+hi) / 2)]! =true)):=(⟨I.out.1, .inr hlv⟩:_∧_);exact ⟨lo,(lo+hi) / 2,rfl,by rw [show ((lo:Int)+(hi:Int)) / 2=(((lo+hi) / 2:Nat):Int) by omega],by omega,by omega,by omega,Nat.le_refl _,S2,I2⟩
    | false =>
      have eahf:((m:Int)).toNat=m:=by omega
      have pahf:(0:Int)≤(m:Int):=by omega
      have bahf:(m:Int)<(d.size:Int):=by omega
      have rahf:IntKind.i64.wrap ((m:Int))=(m:Int):=by rw [IntKind.wrap_i64];omega
      have echf:(((lo:Int)+(hi:Int)) / 2).toNat=(lo+hi) / 2:=by omega
      have pchf:(0:Int)≤((lo:Int)+(hi:Int)) / 2:=by omega
      have bchf:((lo:Int)+(hi:Int)) / 2<(d.size:Int):=by omega
      have rchf:IntKind.i64.wrap (((lo:Int)+(hi:Int)) / 2)=((lo:Int)+(hi:Int)) / 2:=by rw [IntKind.wrap_i64];omega
      obtain ⟨xhf,hxhf⟩: ∃x,x=d[m]!:=⟨_,rfl⟩;obtain ⟨yhf,hyhf⟩: ∃x,x=d[(lo+hi) / 2]!:=⟨_,rfl⟩;have lahf: ∀p:BelowBy wr,p.w.cell? ⟨blk,m,none⟩=some (.string d[m]!):=S1.out.ld R (m) (by omega);have lbhf: ∀p:BelowBy wr,p.w.cell? ⟨blk,(lo+hi) / 2,none⟩=some (.string d[(lo+hi) / 2]!):=S1.out.ld R ((lo+hi) / 2) (by omega);rw [←hxhf] at lahf;rw [←hyhf] at lbhf;have hchf:=fun p:BelowBy wr=>S1.out.cmp R HC.out (by omega) p xhf yhf
      have hvhf: ¬cf xhf yhf<0:=by rw [hxhf,hyhf];exact of_decide_eq_false hlv
      have hdhf:decide (cf xhf yhf<0)=false:=decide_eq_false hvhf;clear hxhf hyhf;go_wp2_with fail
      refine wp_region_quiet_below (by assumption) (by kernel_rfl) ?_
      repeat (quiet_step (first|(go_at_fn g;refine Calls.below_of (hchf _))))
      refine wpQuiet_nil ?_;intro _ hw';obtain ⟨p,hw''⟩:=hw';subst hw'';have S2:Aside (SRow w0 blk cap d p.w):=S1.out.below R p.h;clear lahf lbhf hchf S1;generalize p.w=w2 at S2 ⊢;clear p;go_wp2
      go_roundg (hi - ((lo+hi) / 2+1))
      case measure=>omega
      case rel=>
        have I2:Hid ((((lo+hi) / 2+1)=a∨ltOf cf d[m]! d[((lo+hi) / 2+1) - 1]! =false)∧(hi=m∨ltOf cf d[m]! d[hi]! =true)):=(⟨.inr hlv,I.out.2⟩:_∧_);exact ⟨(lo+hi) / 2+1,hi,by rw [show ((lo:Int)+(hi:Int)) / 2+1=(((lo+hi) / 2+1:Nat):Int) by omega],rfl,by omega,by omega,by omega,Nat.le_refl _,S2,I2⟩
set_option maxHeartbeats 8000000 in
set_option maxRecDepth 1000000 in
theorem symMerge_bigS {P:Program} (FS:P.funcs[179]?=some Try.f179) (FR:P.funcs[177]?=some Try.f177) (F:P.funcs[171]?=some Try.f171) (L:SortTS P) (cf:ByteArray→ByteArray→Int) (g:Nat) (cb:Array Value) (blk cap:Nat) (d0:Array ByteArray) (w0:World)
    (eg: ∀args w,(callFunc g args).run P w= .ok (.enter g args) w) (hcmp:CmpS P g cb cf w0 blk cap d0.size) (R:blk<w0.heap.size) (hO:SWO (ltOf cf)) (hsz:d0.size<2305843009213693952) (N:Nat) (ih:SymNS P cf g cb blk cap d0 w0 N)
    (a m b:Nat) (d:Array ByteArray) (w:World) (hN:b - a≤N+1) (c1: ¬m=a+1) (c2: ¬b=m+1) (hs:d0.size=d.size) (S:SRow w0 blk cap d w) (ham:a<m) (hmb:m<b) (hb:b≤d.size) (sA:SortedIn (ltOf cf) a m d) (sB:SortedIn (ltOf cf) m b d):SymRS P cf g cb blk cap w0 a m b d w:=by
  unfold SymRS;have mixed:=L.mixed;have t0:=L.t0;have a0:=L.a0;have z0:=L.z0;have v0:=L.v0;have t3:=L.t3;have a3:=L.a3;have z3:=L.z3;have v3:=L.v3;have t4:=L.t4;have a4:=L.a4;have z4:=L.z4;have v4:=L.v4;have t5:=L.t5;have a5:=L.a5;have z5:=L.z5;have v5:=L.v5;have t22:=L.t22;have a22:=L.a22;have z22:=L.z22;have v22:=L.v22;have t25:=L.t25;have a25:=L.a25;have z25:=L.z25;have v25:=L.v25;have tE:=L.tE;have aE:=L.aE;have zE:=L.zE;have vE:=L.vE;have u0:=run_underlying L.t0;have u3:=run_underlying L.t3;have u4:=run_underlying L.t4;have u5:=run_underlying L.t5;have u22:=run_underlying L.t22;have uE:=run_underlying L.tE;have eR: ∀args w,(callFunc 177 args).run P w= .ok (.enter 177 args) w:=enters_of FR (by kernel_rfl) rfl;have eY: ∀args w,(callFunc 171 args).run P w= .ok (.enter 171 args) w:=enters_of F (by kernel_rfl) rfl;have HC:Aside _:=hcmp;have S0:Aside (SRow w0 blk cap d w):=S;have SS:Hid (SortedIn (ltOf cf) a m d∧SortedIn (ltOf cf) m b d):=(⟨sA,sB⟩:_∧_);have IH:Hid _:=ih;clear hcmp S sA sB ih;have c1z:((m:Int) - (a:Int)==1)=false:=by simp;omega
  have c2z:((b:Int) - (m:Int)==1)=false:=by simp;omega
  obtain ⟨mid,hmid⟩: ∃mid:Nat,2*mid≤a+b∧a+b≤2*mid+1:=⟨(a+b) / 2,by omega⟩;have hmz:((a:Int)+(b:Int)) / 2=(mid:Int):=by omega
  obtain ⟨pz,hpz⟩: ∃p:Nat,p+1≤mid+m∧mid+m≤p+1:=⟨mid+m - 1,by omega⟩;have hpq:(mid:Int)+(m:Int) - 1=(pz:Int):=by omega
  go_enter F,Try.ntmps171;have HMZ:Hid _:=hmz;clear hmz;go_upto_region 25 with (fail)
  rw [HMZ.out];go_upto_if 140 with (fail)
  go_cut [20,21] (fun v20 v21 wc=> ∃lo hi:Nat,v20= .int .i64 lo∧v21= .int .i64 hi∧a≤lo∧lo≤hi∧hi≤m∧hi≤mid∧mid+m - lo≤b∧m≤mid+m - hi∧Aside (SRow w0 blk cap d wc)∧Hid (((lo=a∨mid+m - lo=b)∨ltOf cf d[mid+m - lo]! d[lo - 1]! =false)∧((hi=m∨mid+m - hi=m)∨ltOf cf d[mid+m - hi - 1]! d[hi]! =true)))
  case first=>
    as_aux_lemma=>
      by_cases hgt:mid<m
      · have hgz : (mid : Int) < (m : Int) := by omega
        go_wp2
        go_meet
        case rel=>exact ⟨mid+m - b,mid,by rw [show ((mid+m - b:Nat):Int)=(mid:Int)+(m:Int) - (b:Int) by omega],rfl,by omega,by omega,by omega,Nat.le_refl _,by omega,by omega,S0,(⟨.inl (.inr (by omega)), .inl (.inr (by omega))⟩:_∧_)⟩
      have hgz: ¬(mid:Int)<(m:Int):=by omega
      go_wp2
      go_meet
      case rel=>exact ⟨a,m,rfl,rfl,by omega,by omega,Nat.le_refl _,by omega,by omega,by omega,S0,(⟨.inl (.inl rfl), .inl (.inl rfl)⟩:_∧_)⟩
  case rest=>
    clear S0;obtain ⟨lo0,hi0,rfl,rfl,b1,b2,b3,b4,b5,b6,S0,I0⟩:=hcut;go_wp2
    go_loopg [20,21] (b - a) (fun kx s20 s21 wr=> ∃lo hi:Nat,s20= .int .i64 lo∧s21= .int .i64 hi∧lo0≤lo∧lo≤hi∧hi≤hi0∧hi - lo≤kx∧Aside (SRow w0 blk cap d wr)∧Hid (((lo=a∨mid+m - lo=b)∨ltOf cf d[mid+m - lo]! d[lo - 1]! =false)∧((hi=m∨mid+m - hi=m)∨ltOf cf d[mid+m - hi - 1]! d[hi]! =true)))
    case atStart=>exact ⟨lo0,hi0,rfl,rfl,Nat.le_refl _,by omega,Nat.le_refl _,by omega,S0,I0⟩
    case round=>
      clear S0 I0;obtain ⟨lo,hi,rfl,rfl,hml,hlh,hhb,hg,S1,I⟩:=hrel;by_cases hlt:lo<hi
      · have hltz : (lo : Int) < (hi : Int) := by omega
        obtain ⟨xq,hxq⟩: ∃x:Nat,x+(lo+hi) / 2≤pz∧pz≤x+(lo+hi) / 2:=⟨pz - (lo+hi) / 2,by omega⟩
        have hxd:(pz:Int) - ((lo:Int)+(hi:Int)) / 2=(xq:Int):=by omega
        cases hlv:ltOf cf d[xq]! d[(lo+hi) / 2]! with
        | true =>
          have eaht:((xq:Int)).toNat=xq:=by omega
          have paht:(0:Int)≤(xq:Int):=by omega
          have baht:(xq:Int)<(d.size:Int):=by omega
          have raht:IntKind.i64.wrap ((xq:Int))=(xq:Int):=by rw [IntKind.wrap_i64];omega
          have echt:(((lo:Int)+(hi:Int)) / 2).toNat=(lo+hi) / 2:=by omega
          have pcht:(0:Int)≤((lo:Int)+(hi:Int)) / 2:=by omega
          have bcht:((lo:Int)+(hi:Int)) / 2<(d.size:Int):=by omega
          have rcht:IntKind.i64.wrap (((lo:Int)+(hi:Int)) / 2)=((lo:Int)+(hi:Int)) / 2:=by rw [IntKind.wrap_i64];omega
          obtain ⟨xht,hxht⟩: ∃x,x=d[xq]!:=⟨_,rfl⟩;obtain ⟨yht,hyht⟩: ∃x,x=d[(lo+hi) / 2]!:=⟨_,rfl⟩;have laht: ∀p:BelowBy wr,p.w.cell? ⟨blk,xq,none⟩=some (.string d[xq]!):=S1.out.ld R (xq) (by omega);have lbht: ∀p:BelowBy wr,p.w.cell? ⟨blk,(lo+hi) / 2,none⟩=some (.string d[(lo+hi) / 2]!):=S1.out.ld R ((lo+hi) / 2) (by omega);rw [←hxht] at laht;rw [←hyht] at lbht;have hcht:=fun p:BelowBy wr=>S1.out.cmp R HC.out (by omega) p xht yht
          have hvht:cf xht yht<0:=by rw [hxht,hyht];exact of_decide_eq_true hlv
          have hdht:decide (cf xht yht<0)=true:=decide_eq_true hvht;clear hxht hyht;go_wp2_with fail
          refine wp_region_quiet_below (by assumption) (by kernel_rfl) ?_
          repeat (quiet_step (first|(go_at_fn g;refine Calls.below_of (hcht _))))
          refine wpQuiet_nil ?_;intro _ hw';obtain ⟨p,hw''⟩:=hw';subst hw'';have S2:Aside (SRow w0 blk cap d p.w):=S1.out.below R p.h;clear laht lbht hcht S1;generalize p.w=w2 at S2 ⊢;clear p;go_wp2
          go_roundg ((lo+hi) / 2 - lo)
          case measure=>omega
          case rel=>
            have I2:Hid (((lo=a∨mid+m - lo=b)∨ltOf cf d[mid+m - lo]! d[lo - 1]! =false)∧((((lo+hi) / 2)=m∨mid+m - ((lo+hi) / 2)=m)∨ltOf cf d[mid+m - ((lo+hi) / 2) - 1]! d[((lo+hi) / 2)]! =true)):=(⟨I.out.1, .inr (by rw [show mid+m - ((lo+hi) / 2) - 1=xq by omega];exact hlv)⟩:_∧_);exact ⟨lo,(lo+hi) / 2,rfl,by rw [show ((lo:Int)+(hi:Int)) / 2=(((lo+hi) / 2:Nat):Int) by omega],by omega,by omega,by omega,Nat.le_refl _,S2,I2⟩
        | false =>
          have eahf:((xq:Int)).toNat=xq:=by omega
          have pahf:(0:Int)≤(xq:Int):=by omega
          have bahf:(xq:Int)<(d.size:Int):=by omega
          have rahf:IntKind.i64.wrap ((xq:Int))=(xq:Int):=by rw [IntKind.wrap_i64];omega
          have echf:(((lo:Int)+(hi:Int)) / 2).toNat=(lo+hi) / 2:=by omega
          have pchf:(0:Int)≤((lo:Int)+(hi:Int)) / 2:=by omega
          have bchf:((lo:Int)+(hi:Int)) / 2<(d.size:Int):=by omega
          have rchf:IntKind.i64.wrap (((lo:Int)+(hi:Int)) / 2)=((lo:Int)+(hi:Int)) / 2:=by rw [IntKind.wrap_i64];omega
          obtain ⟨xhf,hxhf⟩: ∃x,x=d[xq]!:=⟨_,rfl⟩;obtain ⟨yhf,hyhf⟩: ∃x,x=d[(lo+hi) / 2]!:=⟨_,rfl⟩;have lahf: ∀p:BelowBy wr,p.w.cell? ⟨blk,xq,none⟩=some (.string d[xq]!):=S1.out.ld R (xq) (by omega);have lbhf: ∀p:BelowBy wr,p.w.cell? ⟨blk,(lo+hi) / 2,none⟩=some (.string d[(lo+hi) / 2]!):=S1.out.ld R ((lo+hi) / 2) (by omega);rw [←hxhf] at lahf;rw [←hyhf] at lbhf;have hchf:=fun p:BelowBy wr=>S1.out.cmp R HC.out (by omega) p xhf yhf
          have hvhf: ¬cf xhf yhf<0:=by rw [hxhf,hyhf];exact of_decide_eq_false hlv
          have hdhf:decide (cf xhf yhf<0)=false:=decide_eq_false hvhf;clear hxhf hyhf;go_wp2_with fail
          refine wp_region_quiet_below (by assumption) (by kernel_rfl) ?_
          repeat (quiet_step (first|(go_at_fn g;refine Calls.below_of (hchf _))))
          refine wpQuiet_nil ?_;intro _ hw';obtain ⟨p,hw''⟩:=hw';subst hw'';have S2:Aside (SRow w0 blk cap d p.w):=S1.out.below R p.h;clear lahf lbhf hchf S1;generalize p.w=w2 at S2 ⊢;clear p;go_wp2
          go_roundg (hi - ((lo+hi) / 2+1))
          case measure=>omega
          case rel=>
            have I2:Hid (((((lo+hi) / 2+1)=a∨mid+m - ((lo+hi) / 2+1)=b)∨ltOf cf d[mid+m - ((lo+hi) / 2+1)]! d[((lo+hi) / 2+1) - 1]! =false)∧((hi=m∨mid+m - hi=m)∨ltOf cf d[mid+m - hi - 1]! d[hi]! =true)):=(⟨.inr (by rw [show mid+m - ((lo+hi) / 2+1)=xq by omega];exact hlv),I.out.2⟩:_∧_);exact ⟨(lo+hi) / 2+1,hi,by rw [show ((lo:Int)+(hi:Int)) / 2+1=(((lo+hi) / 2+1:Nat):Int) by omega],rfl,by omega,by omega,by omega,Nat.le_refl _,S2,I2⟩
      obtain rfl:hi=lo:=by omega
      have hltz: ¬(hi:Int)<(hi:Int):=by omega
      obtain ⟨e,he⟩: ∃e:Nat,e+hi≤mid+m∧mid+m≤e+hi:=⟨mid+m - hi,by omega⟩;have hez:(mid:Int)+(m:Int) - (hi:Int)=(e:Int):=by omega
      have IE:Hid (((hi=a∨e=b)∨ltOf cf d[e]! d[hi - 1]! =false)∧((hi=m∨e=m)∨ltOf cf d[e - 1]! d[hi]! =true)):=by rw [show e=mid+m - hi by omega];exact I
      clear I;go_upto_region 39 with (fail)
      go_cut [185] (fun v wc=> ∃q:Bool,v= .bool q∧Hid (q=true↔(hi<m∧m<e))∧Aside (SRow w0 blk cap d wc))
      case first=>
        as_aux_lemma=>
          by_cases hr1:hi<m;rotate_left
          · have hr1z : ¬ (hi : Int) < (m : Int) := by omega
            go_wp2
            go_meet
            case rel=>exact ⟨false,rfl,(show Hid _ from (⟨fun h=>absurd h (by simp),fun h=>absurd h.1 hr1⟩:false=true↔(hi<m∧m<e))),S1⟩
          have hr1z:(hi:Int)<(m:Int):=by omega
          by_cases hr2:m<e
          · have hr2z : (m : Int) < (e : Int) := by omega
            go_wp2
            go_meet
            case rel=>exact ⟨true,rfl,(show Hid _ from (⟨fun _=>⟨hr1,hr2⟩,fun _=>rfl⟩:true=true↔(hi<m∧m<e))),S1⟩
          have hr2z: ¬(m:Int)<(e:Int):=by omega
          go_wp2
          go_meet
          case rel=>exact ⟨false,rfl,(show Hid _ from (⟨fun h=>absurd h (by simp),fun h=>absurd h.2 hr2⟩:false=true↔(hi<m∧m<e))),S1⟩
      case rest=>
      clear S1;obtain ⟨q,rfl,Q,S1⟩:=hcut;go_upto_if 185 with (fail)
      go_cut [] (fun wc=> ∃d1:Array ByteArray,Aside (SRow w0 blk cap d1 wc)∧Hid (Turned_ (ltOf cf) a hi mid e b d d1))
      case first=>
        as_aux_lemma=>
          cases q with
          | true =>
            have hr:=Q.out.1 rfl;have hcall:=rotate_s FS FR L g cb blk cap hi m e d0 d w0 wc R hs S1.out hr.1 hr.2 (by omega) (by omega);clear S1 hr;go_wp2_with (go_at_fn 177;refine hcall.mono ?_;rintro e_ w1 ⟨rfl,d1,S2,X,Y⟩;have S3:Aside (SRow w0 blk cap d1 w1):=S2;have T:Hid (Turned_ (ltOf cf) a hi mid e b d d1):=turned_of hO (permIn_mono d d1 hi e a b (by omega) (by omega) (by omega) Y) X (by omega) (by omega) (by omega) (by omega) (by omega) SS.out.1 SS.out.2 IE.out.1 IE.out.2;clear X Y S2)
            go_meet
            case rel=>exact ⟨d1,S3,T⟩
          | false =>
            have hr: ¬(hi<m∧m<e):=fun h=>by have:=Q.out.2 h;simp at this
            have T:Hid (Turned_ (ltOf cf) a hi mid e b d d):=turned_of hO (permIn_refl _ _ _) (by
              by_cases q:hi=m
              · rw [q];exact rot_left _ _ _
              rw [show e=m by omega];exact rot_right _ _ _) (by omega) (by omega) (by omega) (by omega) (by omega) SS.out.1 SS.out.2 IE.out.1 IE.out.2
            clear hr;go_wp2
            go_meet
            case rel=>exact ⟨d,S1,T⟩
      case rest=>
        clear S1 IE;obtain ⟨d1,S1,T⟩:=hcut;clear Q;have hd1:d1.size=d.size:=T.out.perm.1;go_upto_region 41 with (fail)
        go_cut [199] (fun v wc=> ∃q:Bool,v= .bool q∧Hid (q=true↔(a<hi∧hi<mid))∧Aside (SRow w0 blk cap d1 wc))
        case first=>
          as_aux_lemma=>
            by_cases hr1:a<hi;rotate_left
            · have hr1z : ¬ (a : Int) < (hi : Int) := by omega
              go_wp2
              go_meet
              case rel=>exact ⟨false,rfl,(show Hid _ from (⟨fun h=>absurd h (by simp),fun h=>absurd h.1 hr1⟩:false=true↔(a<hi∧hi<mid))),S1⟩
            have hr1z:(a:Int)<(hi:Int):=by omega
            by_cases hr2:hi<mid
            · have hr2z : (hi : Int) < (mid : Int) := by omega
              go_wp2
              go_meet
              case rel=>exact ⟨true,rfl,(show Hid _ from (⟨fun _=>⟨hr1,hr2⟩,fun _=>rfl⟩:true=true↔(a<hi∧hi<mid))),S1⟩
            have hr2z: ¬(hi:Int)<(mid:Int):=by omega
            go_wp2
            go_meet
            case rel=>exact ⟨false,rfl,(show Hid _ from (⟨fun h=>absurd h (by simp),fun h=>absurd h.2 hr2⟩:false=true↔(a<hi∧hi<mid))),S1⟩
        case rest=>
        clear S1;obtain ⟨q,rfl,Q,S1⟩:=hcut;go_upto_if 199 with (fail)
        go_cut [] (fun wc=> ∃d2:Array ByteArray,Aside (SRow w0 blk cap d2 wc)∧Hid (SortedIn (ltOf cf) a mid d2∧PermIn a mid d1 d2))
        case first=>
          as_aux_lemma=>
            cases q with
            | true =>
              have hr:=Q.out.1 rfl;have hcall:SymRS P cf g cb blk cap w0 a hi mid d1 wc:=IH.out a hi mid d1 wc (by omega) (by omega) S1.out hr.1 hr.2 (by omega) T.out.s1 T.out.s2;unfold SymRS at hcall;rw [hd1] at hcall;clear S1 hr;go_wp2_with (go_at_fn 171;refine hcall.mono ?_;rintro e_ w1 ⟨rfl,d2,S2,X,Y⟩;have S3:Aside (SRow w0 blk cap d2 w1):=S2;have T2:Hid (SortedIn (ltOf cf) a mid d2∧PermIn a mid d1 d2):=(⟨X,Y⟩:_∧_);clear X Y S2)
              go_meet
              case rel=>exact ⟨d2,S3,T2⟩
            | false =>
              have hr: ¬(a<hi∧hi<mid):=fun h=>by have:=Q.out.2 h;simp at this
              have T2:Hid (SortedIn (ltOf cf) a mid d1∧PermIn a mid d1 d1):=(⟨sorted_whole T.out.s1 T.out.s2 hr,permIn_refl _ _ _⟩:_∧_);clear hr;go_wp2
              go_meet
              case rel=>exact ⟨d1,S1,T2⟩
        case rest=>
          clear S1 Q;obtain ⟨d2,S1,T2⟩:=hcut;have hd2:d2.size=d.size:=by rw [T2.out.2.1];exact hd1
          have s3:SortedIn (ltOf cf) mid e d2:=sorted_congr T.out.s3 (fun q h1 _=>T2.out.2.2.1 q (.inr h1));have s4:SortedIn (ltOf cf) e b d2:=sorted_congr T.out.s4 (fun q h1 _=>T2.out.2.2.1 q (.inr (by omega)));have S34:Hid (SortedIn (ltOf cf) mid e d2∧SortedIn (ltOf cf) e b d2):=(⟨s3,s4⟩:_∧_);clear s3 s4
          have fin: ∀d3,SortedIn (ltOf cf) mid b d3→PermIn mid b d2 d3→SortedIn (ltOf cf) a b d3∧PermIn a b d d3:=fun d3 q1 q2=>by
            obtain ⟨z1,z2⟩:=sym_join (by omega) (by omega) (by omega) T.out.x T2.out.2 T2.out.1 q2 q1;exact ⟨z1,permIn_trans _ _ _ _ _ T.out.perm z2⟩
          have FIN:Hid _:=fin;clear fin;by_cases hr:mid<e∧e<b
          · have hr1 : (mid : Int) < (e : Int) := by omega
            have hr2:(e:Int)<(b:Int):=by omega
            have hcall:SymRS P cf g cb blk cap w0 mid e b d2 wc:=IH.out mid e b d2 wc (by omega) (by omega) S1.out hr.1 hr.2 (by omega) S34.out.1 S34.out.2
            unfold SymRS at hcall
            rw [hd2] at hcall
            clear S1
            go_wp2_with (go_at_fn 171;refine hcall.mono ?_;rintro e_ w1 ⟨rfl,d3,S2,X,Y⟩;have S3:Aside (SRow w0 blk cap d3 w1):=S2;have T3:Hid (SortedIn (ltOf cf) mid b d3∧PermIn mid b d2 d3):=(⟨X,Y⟩:_∧_);clear X Y S2)
            go_end0
            exact ⟨rfl,d3,S3.out,FIN.out d3 T3.out.1 T3.out.2⟩
          have T3:Hid (SortedIn (ltOf cf) mid b d2):=sorted_whole S34.out.1 S34.out.2 hr;by_cases hr1:mid<e
          · have hr1z : (mid : Int) < (e : Int) := by omega
            have hr2z: ¬(e:Int)<(b:Int):=by omega
            go_wp2
            go_end0
            exact ⟨rfl,d2,S1.out,FIN.out d2 T3.out (permIn_refl _ _ _)⟩
          have hr1z: ¬(mid:Int)<(e:Int):=by omega
          go_wp2
          go_end0
          exact ⟨rfl,d2,S1.out,FIN.out d2 T3.out (permIn_refl _ _ _)⟩
theorem symMerge_s {P:Program} (FS:P.funcs[179]?=some Try.f179) (FR:P.funcs[177]?=some Try.f177) (F:P.funcs[171]?=some Try.f171) (L:SortTS P) (cf:ByteArray→ByteArray→Int) (g:Nat) (cb:Array Value) (blk cap:Nat) (d0:Array ByteArray) (w0:World)
    (eg: ∀args w,(callFunc g args).run P w= .ok (.enter g args) w) (hcmp:CmpS P g cb cf w0 blk cap d0.size) (R:blk<w0.heap.size) (hO:SWO (ltOf cf)) (hsz:d0.size<2305843009213693952): ∀N,SymNS P cf g cb blk cap d0 w0 N
  |0=>fun a m b d w h1 _ _ h2 h3=>by omega
  | N + 1 => fun a m b d w hN hs S ham hmb hb sA sB => by
    by_cases c1:m=a+1
    · exact symMerge_oneS FS FR F L cf g cb blk cap d0 w0 eg hcmp R hO hsz a m b d w c1 hs S ham hmb hb sA sB
    by_cases c2:b=m+1
    · exact symMerge_lastS FS FR F L cf g cb blk cap d0 w0 eg hcmp R hO hsz a m b d w c1 c2 hs S ham hmb hb sA sB
    exact symMerge_bigS FS FR F L cf g cb blk cap d0 w0 eg hcmp R hO hsz N (symMerge_s FS FR F L cf g cb blk cap d0 w0 eg hcmp R hO hsz N) a m b d w hN c1 c2 hs S ham hmb hb sA sB
def InsNS (P:Program) (cf:ByteArray→ByteArray→Int) (g:Nat) (cb:Array Value) (blk cap:Nat) (d0:Array ByteArray) (w0:World):Prop:=
  ∀ (a b : Nat) (d : Array ByteArray) (w : World), d0.size = d.size → SRow w0 blk cap d w → a ≤ b → b ≤ d.size →
    Calls P 170 #[.slice (some ⟨blk,0,none⟩) d.size cap, .int .i64 a, .int .i64 b, .func (.func g) #[] cb] w fun e w'=>e= .returned (.tuple #[])∧ ∃d',SRow w0 blk cap d' w'∧SortedIn (ltOf cf) a b d'∧PermIn a b d d'
theorem rot_at {m j:Nat} {d d':Array ByteArray} (h:RotAt j m (m+1) d d') (hj:j≤m):d'[j]! =d[m]!∧ ∀c,c<j→d'[c]! =d[c]!:=by
  refine ⟨?_,fun c hc=> ?_⟩
  · rw [h.2, if_pos (by omega)]
    exact get_eq _ (by omega)
  rw [h.2,if_neg (by omega),if_neg (by omega)]
set_option maxHeartbeats 8000000 in
set_option maxRecDepth 1000000 in
theorem ins_s {P:Program} (F:P.funcs[170]?=some Try.f170) (L:SortTS P) (cf:ByteArray→ByteArray→Int) (g:Nat) (cb:Array Value) (blk cap:Nat) (d0:Array ByteArray) (w0:World)
    (eg: ∀args w,(callFunc g args).run P w= .ok (.enter g args) w) (hcmp:CmpS P g cb cf w0 blk cap d0.size) (R:blk<w0.heap.size) (hO:SWO (ltOf cf)) (hsz:d0.size<576460752303423488):InsNS P cf g cb blk cap d0 w0:=by
  intro a b d w hs S hab hb;have mixed:=L.mixed;have t0:=L.t0;have a0:=L.a0;have z0:=L.z0;have v0:=L.v0;have t3:=L.t3;have a3:=L.a3;have z3:=L.z3;have v3:=L.v3;have t4:=L.t4;have a4:=L.a4;have z4:=L.z4;have v4:=L.v4;have t5:=L.t5;have a5:=L.a5;have z5:=L.z5;have v5:=L.v5;have t22:=L.t22;have a22:=L.a22;have z22:=L.z22;have v22:=L.v22;have t25:=L.t25;have a25:=L.a25;have z25:=L.z25;have v25:=L.v25;have tE:=L.tE;have aE:=L.aE;have zE:=L.zE;have vE:=L.vE;have u0:=run_underlying L.t0;have u3:=run_underlying L.t3;have u4:=run_underlying L.t4;have u5:=run_underlying L.t5;have u22:=run_underlying L.t22;have uE:=run_underlying L.tE;have HC:Aside _:=hcmp;have S0:Aside (SRow w0 blk cap d w):=S;clear hcmp S;go_enter F,Try.ntmps170;go_wp2
  go_loopg [8] (b - a) (fun kx s8 wr=> ∃(i:Nat) (dk:Array ByteArray),s8= .int .i64 i∧a<i∧i≤b+1∧b - i≤kx∧dk.size=d.size∧Aside (SRow w0 blk cap dk wr)∧Hid (SortedIn (ltOf cf) a (min i b) dk∧PermIn a b d dk))
  case atStart=>exact ⟨a+1,d,by rw [show ((a+1:Nat):Int)=(a:Int)+1 by omega],by omega,by omega,by omega,rfl,S0,(⟨fun x y h1 h2 h3=>by omega,permIn_refl _ _ _⟩:_∧_)⟩
  case round=>
    clear S0;obtain ⟨i,dk,rfl,hai,hib,hkx,hds,S1,HH⟩:=hrel;by_cases hlt:i<b;rotate_left
    · have hltz : ¬ (i : Int) < (b : Int) := by omega
      go_wp2
      go_end0
      have q:=HH.out.1
      rw [Nat.min_eq_right (by omega)] at q
      exact ⟨rfl,dk,S1.out,q,HH.out.2⟩
    have hltz:(i:Int)<(b:Int):=by omega
    go_wp2
    go_loopg [9] (i - a) (fun kx s9 wr2=> ∃(j:Nat) (dj:Array ByteArray),s9= .int .i64 j∧a≤j∧j≤i∧j - a≤kx∧dj.size=d.size∧Aside (SRow w0 blk cap dj wr2)∧Hid (RotAt j i (i+1) dk dj∧(∀c,j≤c→c<i→ltOf cf dk[i]! dk[c]! =true)∧PermIn a b d dj))
    case atStart=>exact ⟨i,dk,rfl,by omega,Nat.le_refl _,Nat.le_refl _,hds,S1,(⟨rot_left _ _ _,fun c h1 h2=>by omega,HH.out.2⟩:_∧_∧_)⟩
    case round=>
      clear S1;obtain ⟨j,dj,rfl,haj,hji,hkx2,hdj,S1,HJ⟩:=hrel
      have FIN:Hid ((j=a∨ltOf cf dk[i]! dk[j - 1]! =false)→SortedIn (ltOf cf) a (min (i+1) b) dj∧PermIn a b d dj):=fun e=>by
        have hA:=HH.out.1;rw [Nat.min_eq_left (by omega)] at hA;rw [Nat.min_eq_left (by omega)];exact ⟨ins_right_ hO HJ.out.1 haj hji hA (right_le hO hA hji e) HJ.out.2.1,HJ.out.2.2⟩
      by_cases hja:a<j;rotate_left
      · have F2 : Hid (SortedIn (ltOf cf) a (min (i + 1) b) dj ∧ PermIn a b d dj) := FIN.out (.inl (by omega))
        clear FIN HJ HH
        have hjz: ¬(a:Int)<(j:Int):=by omega
        have hjz2:decide ((a:Int)<(j:Int))=false:=decide_eq_false hjz
        go_wp2_with fail
        refine start_ (n:=17) (S:=fun w'=>True) (ds:=[]) (bt_ 17 0) mixed rfl rfl trivial (fun hHeld=> ?_)
        refine pv_ (i:=0) (N:=some 18) (bt_ 17 1) ?_
        refine pv_ (i:=1) (N:=some 19) (bt_ 17 3) ?_
        refine pv_ (i:=2) (N:=some 20) (bt_ 17 7) ?_
        refine pv_ (i:=3) (N:=some 21) (bt_ 17 15) ?_
        refine take_ (i:=4) (N:=some 22) (v:=undef) (a':= ?_) (bt_ 17 31) rfl rfl (by kernel_rfl) (fun _ _ _ h=>h) (Or.inr ⟨by rfl,rfl⟩) hHeld ?_ ?_;rotate_left;(simp only [Act.put,List.setIfInBounds_toArray,List.set_cons_zero,List.set_cons_succ,i64_w,i32_w];rfl)
        refine take_ (i:=5) (N:=some 23) (v:=undef) (a':= ?_) (bt_ 17 63) rfl rfl (by kernel_rfl) (fun _ _ _ h=>h) (Or.inr ⟨by rfl,rfl⟩) hHeld ?_ ?_;rotate_left;(simp only [Act.put,List.setIfInBounds_toArray,List.set_cons_zero,List.set_cons_succ,i64_w,i32_w];rfl)
        refine take_ (i:=6) (N:=some 24) (v:=undef) (a':= ?_) (bt_ 17 127) rfl rfl (by kernel_rfl) (fun _ _ _ h=>h) (Or.inr ⟨by rfl,rfl⟩) hHeld ?_ ?_;rotate_left;(simp only [Act.put,List.setIfInBounds_toArray,List.set_cons_zero,List.set_cons_succ,i64_w,i32_w];rfl)
        refine take_ (i:=7) (N:=some 25) (v:=undef) (a':= ?_) (bt_ 17 255) rfl rfl (by kernel_rfl) (fun _ _ _ h=>h) (Or.inr ⟨by rfl,rfl⟩) hHeld ?_ ?_;rotate_left;(simp only [Act.put,List.setIfInBounds_toArray,List.set_cons_zero,List.set_cons_succ,i64_w,i32_w];rfl)
        refine take_ (i:=8) (N:=some 26) (v:=undef) (a':= ?_) (bt_ 17 511) rfl rfl (by kernel_rfl) (fun _ _ _ h=>h) (Or.inr ⟨by rfl,rfl⟩) hHeld ?_ ?_;rotate_left;(simp only [Act.put,List.setIfInBounds_toArray,List.set_cons_zero,List.set_cons_succ,i64_w,i32_w];rfl)
        refine take_ (i:=9) (N:=some 27) (v:=undef) (a':= ?_) (bt_ 17 1023) rfl rfl (by kernel_rfl) (fun _ _ _ h=>h) (Or.inr ⟨by rfl,rfl⟩) hHeld ?_ ?_;rotate_left;(simp only [Act.put,List.setIfInBounds_toArray,List.set_cons_zero,List.set_cons_succ,i64_w,i32_w];rfl)
        refine take_ (i:=10) (N:=some 28) (v:=undef) (a':= ?_) (bt_ 17 2047) rfl rfl (by kernel_rfl) (fun _ _ _ h=>h) (Or.inr ⟨by rfl,rfl⟩) hHeld ?_ ?_;rotate_left;(simp only [Act.put,List.setIfInBounds_toArray,List.set_cons_zero,List.set_cons_succ,i64_w,i32_w];rfl)
        refine take_ (i:=11) (N:=some 29) (v:=undef) (a':= ?_) (bt_ 17 4095) rfl rfl (by kernel_rfl) (fun _ _ _ h=>h) (Or.inr ⟨by rfl,rfl⟩) hHeld ?_ ?_;rotate_left;(simp only [Act.put,List.setIfInBounds_toArray,List.set_cons_zero,List.set_cons_succ,i64_w,i32_w];rfl)
        refine take_ (i:=12) (N:=some 30) (v:=undef) (a':= ?_) (bt_ 17 8191) rfl rfl (by kernel_rfl) (fun _ _ _ h=>h) (Or.inr ⟨by rfl,rfl⟩) hHeld ?_ ?_;rotate_left;(simp only [Act.put,List.setIfInBounds_toArray,List.set_cons_zero,List.set_cons_succ,i64_w,i32_w];rfl)
        refine take_ (i:=13) (N:=some 31) (v:=undef) (a':= ?_) (bt_ 17 16383) rfl rfl (by kernel_rfl) (fun _ _ _ h=>h) (Or.inr ⟨by rfl,rfl⟩) hHeld ?_ ?_;rotate_left;(simp only [Act.put,List.setIfInBounds_toArray,List.set_cons_zero,List.set_cons_succ,i64_w,i32_w];rfl)
        refine take_ (i:=14) (N:=some 32) (v:=undef) (a':= ?_) (bt_ 17 32767) rfl rfl (by kernel_rfl) (fun _ _ _ h=>h) (Or.inr ⟨by rfl,rfl⟩) hHeld ?_ ?_;rotate_left;(simp only [Act.put,List.setIfInBounds_toArray,List.set_cons_zero,List.set_cons_succ,i64_w,i32_w];rfl)
        refine take_ (i:=15) (N:=some 33) (v:=undef) (a':= ?_) (bt_ 17 65535) rfl rfl (by kernel_rfl) (fun _ _ _ h=>h) (Or.inr ⟨by rfl,rfl⟩) hHeld ?_ ?_;rotate_left;(simp only [Act.put,List.setIfInBounds_toArray,List.set_cons_zero,List.set_cons_succ,i64_w,i32_w];rfl)
        refine pv_ (i:=16) (N:=some 34) (bt_ 17 131071) ?_
        refine done_ (by kernel_rfl) ?_
        have S2:Aside (SRow w0 blk cap dj wr.drew):=S1.out.below R (below_drew (Below.refl _ _))
        clear S1
        generalize wr.drew=w2 at S2 ⊢
        go_wp2
        go_roundg (b - (i+1))
        case measure=>omega
        case rel=>exact ⟨i+1,dj,by rw [show ((i+1:Nat):Int)=(i:Int)+1 by omega],by omega,by omega,Nat.le_refl _,hdj,S2,F2⟩
      obtain ⟨q,rfl⟩: ∃q,j=q+1:=⟨j - 1,by omega⟩;have hjz:(a:Int)<(q:Int)+1:=by omega
      have hjz2:decide ((a:Int)<(q:Int)+1)=true:=decide_eq_true hjz;have r1:=rot_at HJ.out.1 hji;have R1:Hid (dj[q+1]! =dk[i]!∧dj[q]! =dk[q]!):=(⟨r1.1,r1.2 q (by omega)⟩:_∧_);clear r1;have eaq:((q:Int)).toNat=q:=by omega
      have paq:(0:Int)≤(q:Int):=by omega
      have baq:(q:Int)<(d.size:Int):=by omega
      have raq:IntKind.i64.wrap ((q:Int))=(q:Int):=by rw [IntKind.wrap_i64];omega
      have ecq:((q:Int)+1).toNat=q+1:=by omega
      have pcq:(0:Int)≤(q:Int)+1:=by omega
      have bcq:(q:Int)+1<(d.size:Int):=by omega
      have rcq:IntKind.i64.wrap ((q:Int)+1)=(q:Int)+1:=by rw [IntKind.wrap_i64];omega
      obtain ⟨xht,hxht⟩: ∃x,x=dj[q+1]!:=⟨_,rfl⟩;obtain ⟨yht,hyht⟩: ∃x,x=dj[q]!:=⟨_,rfl⟩;have laht: ∀p:BelowBy wr,p.w.cell? ⟨blk,q+1,none⟩=some (.string dj[q+1]!):=S1.out.ld R (q+1) (by omega);have lbht: ∀p:BelowBy wr,p.w.cell? ⟨blk,q,none⟩=some (.string dj[q]!):=S1.out.ld R q (by omega);rw [←hxht] at laht;rw [←hyht] at lbht;have hcht:=fun p:BelowBy wr=>S1.out.cmp R HC.out (by omega) p xht yht
      cases hlv:ltOf cf dj[q+1]! dj[q]! with
      | true =>
        have hvht:cf xht yht<0:=by rw [hxht,hyht];exact of_decide_eq_true hlv
        have hdht:decide (cf xht yht<0)=true:=decide_eq_true hvht;clear hxht hyht;go_wp2_with fail
        refine wp_region_quiet_below (by assumption) (by kernel_rfl) ?_
        repeat (quiet_step (first|(go_at_fn g;refine Calls.below_of (hcht _))))
        refine wpQuiet_nil ?_;intro _ hw';obtain ⟨p,hw''⟩:=hw';subst hw'';have S2:Aside (SRow w0 blk cap dj p.w):=S1.out.below R p.h;clear laht lbht hcht S1;generalize p.w=w2 at S2 ⊢;clear p;go_wp2
        have S3:Aside (SRow w0 blk cap (swp dj (q+1) (q)) (((w2.setCell ⟨blk,q+1,none⟩ (.string dj[q]!)).setCell ⟨blk,q,none⟩ (.string dj[q+1]!)).drew)):=S2.out.swapped R (q+1) (q) (by omega) (by omega);have laq:w2.drew.cell? ⟨blk,q+1,none⟩=some (.string dj[q+1]!):=S2.out.ld1 (q+1) (by omega);have lbq:w2.drew.cell? ⟨blk,q,none⟩=some (.string dj[q]!):=S2.out.ld1 (q) (by omega);have saq:w2.drew.frozen? ⟨blk,q+1,none⟩=false:=S2.out.fr1 (q+1);have sbq:w2.drew.frozen? ⟨blk,q,none⟩=false:=S2.out.fr1 (q);obtain ⟨u2q,scq⟩:=S2.out.st2 (q+1) (q) (by omega) (.string dj[q]!);have sdq:=S2.out.fr2 (q+1) (q) (.string dj[q]!);generalize dj[q+1]! =cIq at S3 laq R1 hlv;generalize dj[q]! =cJq at S3 lbq scq sdq R1 hlv;clear S2;go_wp2_with fail
        go_big_region_o
        clear laq lbq saq sbq scq sdq;generalize ((w2.setCell ⟨blk,q+1,none⟩ (.string cJq)).setCell ⟨blk,q,none⟩ (.string cIq)).drew=w3 at S3 ⊢;go_wp2
        go_roundg (q - a)
        case measure=>omega
        case rel=>
          have HJ2:Hid (RotAt q i (i+1) dk (swp dj (q+1) q)∧(∀c,q≤c→c<i→ltOf cf dk[i]! dk[c]! =true)∧PermIn a b d (swp dj (q+1) q)):=by
            refine (⟨rot_down HJ.out.1 (by omega) (by omega),fun c h1 h2=> ?_,permIn_trans _ _ _ _ _ HJ.out.2.2 (swp_permIn dj a b (q+1) q (by omega) (by omega) (by omega) (by omega) (by omega))⟩:_∧_∧_);by_cases e:c=q;rotate_left
            · exact HJ.out.2.1 c (by omega) h2
            subst e;rw [←R1.out.1,←R1.out.2];exact hlv
          exact ⟨q,swp dj (q+1) q,rfl,by omega,by omega,Nat.le_refl _,by rw [size_swp];exact hdj,S3,HJ2⟩
      | false =>
        have hvht: ¬cf xht yht<0:=by rw [hxht,hyht];exact of_decide_eq_false hlv
        have hdht:decide (cf xht yht<0)=false:=decide_eq_false hvht;clear hxht hyht;go_wp2_with fail
        refine wp_region_quiet_below (by assumption) (by kernel_rfl) ?_
        repeat (quiet_step (first|(go_at_fn g;refine Calls.below_of (hcht _))))
        refine wpQuiet_nil ?_;intro _ hw';obtain ⟨p,hw''⟩:=hw';subst hw'';have S2:Aside (SRow w0 blk cap dj p.w):=S1.out.below R p.h;clear laht lbht hcht S1;generalize p.w=w2 at S2 ⊢;clear p;go_wp2
        go_roundg (b - (i+1))
        case measure=>omega
        case rel=>
          have H2:Hid (SortedIn (ltOf cf) a (min (i+1) b) dj∧PermIn a b d dj):=FIN.out (.inr (by rw [←R1.out.1,show q+1 - 1=q by omega,←R1.out.2];exact hlv));exact ⟨i+1,dj,by rw [show ((i+1:Nat):Int)=(i:Int)+1 by omega],by omega,by omega,Nat.le_refl _,hdj,S2,H2⟩
set_option maxHeartbeats 8000000 in
set_option maxRecDepth 1000000 in
theorem stable_s {P:Program} (FI:P.funcs[170]?=some Try.f170) (FY:P.funcs[171]?=some Try.f171) (F:P.funcs[152]?=some Try.f152) (L:SortTS P) (cf:ByteArray→ByteArray→Int) (g:Nat) (cb:Array Value) (blk cap:Nat) (d0:Array ByteArray) (w0:World)
    (HI:InsNS P cf g cb blk cap d0 w0) (HY: ∀N,SymNS P cf g cb blk cap d0 w0 N) (hsz:d0.size<576460752303423488) (d:Array ByteArray) (w:World) (hs:d0.size=d.size) (S:SRow w0 blk cap d w):
    Calls P 152 #[.slice (some ⟨blk,0,none⟩) d.size cap, .int .i64 d.size, .func (.func g) #[] cb] w fun e w'=>e= .returned (.tuple #[])∧ ∃d',SRow w0 blk cap d' w'∧SortedIn (ltOf cf) 0 d.size d'∧PermIn 0 d.size d d':=by
  have mixed:=L.mixed;have t0:=L.t0;have a0:=L.a0;have z0:=L.z0;have v0:=L.v0;have t3:=L.t3;have a3:=L.a3;have z3:=L.z3;have v3:=L.v3;have t4:=L.t4;have a4:=L.a4;have z4:=L.z4;have v4:=L.v4;have t5:=L.t5;have a5:=L.a5;have z5:=L.z5;have v5:=L.v5;have t22:=L.t22;have a22:=L.a22;have z22:=L.z22;have v22:=L.v22;have t25:=L.t25;have a25:=L.a25;have z25:=L.z25;have v25:=L.v25;have tE:=L.tE;have aE:=L.aE;have zE:=L.zE;have vE:=L.vE;have u0:=run_underlying L.t0;have u3:=run_underlying L.t3;have u4:=run_underlying L.t4;have u5:=run_underlying L.t5;have u22:=run_underlying L.t22;have uE:=run_underlying L.tE;have eI: ∀args w,(callFunc 170 args).run P w= .ok (.enter 170 args) w:=enters_of FI (by kernel_rfl) rfl;have eY: ∀args w,(callFunc 171 args).run P w= .ok (.enter 171 args) w:=enters_of FY (by kernel_rfl) rfl;have S0:Aside (SRow w0 blk cap d w):=S;have HII:Hid _:=HI;have HYY:Hid _:=HY;clear S HI HY;obtain ⟨n,hn⟩: ∃n,n=d.size:=⟨_,rfl⟩;rw [←hn];have HN:Hid (n=d.size):=hn;have hn1:n≤d.size∧d.size≤n:=by omega
  clear hn;go_enter F,Try.ntmps152;go_wp2
  go_loopg [7,8] (n+1) (fun kx s7 s8 wr=> ∃(t a:Nat) (dk:Array ByteArray),s7= .int .i64 a∧s8= .int .i64 ((a:Int)+20)∧a≤n∧n - a≤kx∧dk.size=n∧Aside (SRow w0 blk cap dk wr)∧Hid (a=t*20∧Upto (ltOf cf) 20 n t dk∧PermIn 0 n d dk))
  case atStart=>exact ⟨0,0,d,rfl,rfl,by omega,by omega,HN.out.symm,S0,(⟨by omega,fun c hc=>by omega,permIn_refl _ _ _⟩:_∧_∧_)⟩
  case round=>
    clear S0;obtain ⟨t,a,dk,rfl,rfl,han,hkx,hds,S1,HH⟩:=hrel;have HD:Hid (dk.size=n):=hds;have hd1:dk.size≤n∧n≤dk.size:=by omega
    clear hds;by_cases hlt:a+20≤n
    · have hltz : (a : Int) + 20 ≤ (n : Int) := by omega
      have hcall:=HII.out a (a+20) dk wr (by omega) S1.out (by omega) (by omega)
      rw [show ((a+20:Nat):Int)=(a:Int)+20 by omega,HD.out] at hcall
      clear S1
      go_wp2_with (go_at_fn 170;refine hcall.mono ?_;rintro e_ w1 ⟨rfl,d1,S2,X,Y⟩;have S3:Aside (SRow w0 blk cap d1 w1):=S2;have T:Hid (SortedIn (ltOf cf) a (a+20) d1∧PermIn a (a+20) dk d1):=(⟨X,Y⟩:_∧_);clear X Y S2)
      go_roundg (n - (a+20))
      case measure=>omega
      case rel=>
        have HH2:Hid (a+20=(t+1)*20∧Upto (ltOf cf) 20 n (t+1) d1∧PermIn 0 n d d1):=by
          obtain ⟨q1,q2,q3⟩:=HH.out;have e1:t*20=a:=q1.symm;have e2:min (t*20+20) n=a+20:=by omega
          show _∧_∧_
          exact ⟨by omega,upto_step q2 (by rw [e1,←e1,e2,e1];exact T.out.2) (by rw [e2,e1];exact T.out.1),part_perm q3 T.out.2 hlt (by omega)⟩
        exact ⟨t+1,a+20,d1,by rw [show ((a+20:Nat):Int)=(a:Int)+20 by omega],by rw [show ((a+20:Nat):Int)=(a:Int)+20 by omega],hlt,Nat.le_refl _,by rw [T.out.2.1];exact HD.out,S3,HH2⟩
    have hltz: ¬(a:Int)+20≤(n:Int):=by omega
    have hcall:=HII.out a n dk wr (by omega) S1.out (by omega) (by omega);rw [HD.out] at hcall;clear S1;go_wp2_with (go_at_fn 170;refine hcall.mono ?_;rintro e_ w1 ⟨rfl,d1,S2,X,Y⟩;have S3:Aside (SRow w0 blk cap d1 w1):=S2;have T:Hid (SortedIn (ltOf cf) a n d1∧PermIn a n dk d1):=(⟨X,Y⟩:_∧_);clear X Y S2)
    have HB:Hid (Blocks (ltOf cf) 20 n d1∧PermIn 0 n d d1∧d1.size=n):=by
      obtain ⟨q1,q2,q3⟩:=HH.out;have e1:t*20=a:=q1.symm;have e2:min (t*20+20) n=n:=by omega
      show _∧_∧_
      exact ⟨upto_all (upto_step q2 (by rw [e2,e1];exact T.out.2) (by rw [e2,e1];exact T.out.1)) (by omega),part_perm q3 T.out.2 (Nat.le_refl _) (by omega),by rw [T.out.2.1];exact HD.out⟩
    clear HH T HD hd1 hlt hltz;go_loopg [6] (n+1) (fun kx s6 wr2=> ∃(bs:Nat) (dk:Array ByteArray),s6= .int .i64 bs∧20≤bs∧bs≤2*n+20∧n - bs≤kx∧Aside (SRow w0 blk cap dk wr2)∧Hid (Blocks (ltOf cf) bs n dk∧PermIn 0 n d dk∧dk.size=n))
    case atStart=>exact ⟨20,d1,rfl,by omega,by omega,by omega,S3,HB⟩
    case round=>
      clear S3 HB;obtain ⟨bs,dk,rfl,hbs,hbs2,hkx2,S1,HB⟩:=hrel;by_cases hlt:bs<n;rotate_left
      · have hltz : ¬ (bs : Int) < (n : Int) := by omega
        go_wp2
        go_end0
        exact ⟨rfl,dk,S1.out,blocks_all HB.out.1 (by omega),HB.out.2.1⟩
      have hltz:(bs:Int)<(n:Int):=by omega
      go_wp2
      go_loopg [7,8] (n+1) (fun kx s7 s8 wr3=> ∃(t a:Nat) (dk:Array ByteArray),s7= .int .i64 a∧s8= .int .i64 ((a:Int)+2*(bs:Int))∧a≤n∧n - a≤kx∧Aside (SRow w0 blk cap dk wr3)∧Hid (a=t*(2*bs)∧Mixed (ltOf cf) bs n t dk∧PermIn 0 n d dk∧dk.size=n))
      case atStart=>exact ⟨0,0,dk,rfl,by simp,by omega,by omega,S1,(⟨by omega,mixed_zero HB.out.1,HB.out.2.1,HB.out.2.2⟩:_∧_∧_∧_)⟩
      case round=>
        clear S1 HB;obtain ⟨t,a,dk,rfl,rfl,han,hkx3,S1,HH⟩:=hrel;have hd1:dk.size≤n∧n≤dk.size:=by have:=HH.out.2.2.2;omega
        by_cases hle:a+2*bs≤n
        · have hlez : (a : Int) + 2 * (bs : Int) ≤ (n : Int) := by omega
          have hm:SortedIn (ltOf cf) a (a+bs) dk∧SortedIn (ltOf cf) (a+bs) (a+2*bs) dk:=by
            obtain ⟨q1,q2,_,_⟩:=HH.out;have q:=mixed_at q2;rw [←q1,Nat.min_eq_left (by omega),Nat.min_eq_left (by omega)] at q;exact q
          have hcall:SymRS P cf g cb blk cap w0 a (a+bs) (a+2*bs) dk wr:=HYY.out _ a (a+bs) (a+2*bs) dk wr (Nat.le_refl _) (by omega) S1.out (by omega) (by omega) (by omega) hm.1 hm.2
          unfold SymRS at hcall
          rw [show ((a+bs:Nat):Int)=(a:Int)+(bs:Int) by omega,show ((a+2*bs:Nat):Int)=(a:Int)+2*(bs:Int) by omega,HH.out.2.2.2] at hcall
          clear S1 hm
          go_wp2_with (go_at_fn 171;refine hcall.mono ?_;rintro e_ w1 ⟨rfl,d1,S2,X,Y⟩;have S3:Aside (SRow w0 blk cap d1 w1):=S2;have T:Hid (SortedIn (ltOf cf) a (a+2*bs) d1∧PermIn a (a+2*bs) dk d1):=(⟨X,Y⟩:_∧_);clear X Y S2)
          go_roundg (n - (a+2*bs))
          case measure=>omega
          case rel=>
            have HH2:Hid (a+2*bs=(t+1)*(2*bs)∧Mixed (ltOf cf) bs n (t+1) d1∧PermIn 0 n d d1∧d1.size=n):=by
              obtain ⟨q1,q2,q3,q4⟩:=HH.out;have e2:min (t*(2*bs)+2*bs) n=t*(2*bs)+2*bs:=by omega
              have T1:=T.out;rw [q1] at T1
              show _∧_∧_∧_
              exact ⟨by rw [Nat.add_mul,Nat.one_mul];omega,mixed_step q2 (by rw [e2];exact T1.2) (by rw [e2];exact T1.1),part_perm q3 T.out.2 hle (by omega),by rw [T.out.2.1];exact q4⟩
            exact ⟨t+1,a+2*bs,d1,by rw [show ((a+2*bs:Nat):Int)=(a:Int)+2*(bs:Int) by omega],by rw [show ((a+2*bs:Nat):Int)=(a:Int)+2*(bs:Int) by omega],hle,Nat.le_refl _,S3,HH2⟩
        have hlez: ¬(a:Int)+2*(bs:Int)≤(n:Int):=by omega
        by_cases hlm:a+bs<n;rotate_left
        · have hlmz : ¬ (a : Int) + (bs : Int) < (n : Int) := by omega
          go_wp2
          go_roundg (n - 2*bs)
          case measure=>omega
          case rel=>
            have HB2:Hid (Blocks (ltOf cf) (2*bs) n dk∧PermIn 0 n d dk∧dk.size=n):=(⟨mixed_end HH.out.2.1 (by have:=HH.out.1;omega),HH.out.2.2.1,HH.out.2.2.2⟩:_∧_∧_);exact ⟨2*bs,dk,by rw [show ((2*bs:Nat):Int)=(bs:Int)*2 by omega],by omega,by omega,Nat.le_refl _,S1,HB2⟩
        have hlmz:(a:Int)+(bs:Int)<(n:Int):=by omega
        have hm:SortedIn (ltOf cf) a (a+bs) dk∧SortedIn (ltOf cf) (a+bs) n dk:=by
          obtain ⟨q1,q2,_,_⟩:=HH.out;have q:=mixed_at q2;rw [←q1,Nat.min_eq_left (by omega),Nat.min_eq_right (by omega)] at q;exact q
        have hcall:SymRS P cf g cb blk cap w0 a (a+bs) n dk wr:=HYY.out _ a (a+bs) n dk wr (Nat.le_refl _) (by omega) S1.out (by omega) (by omega) (by omega) hm.1 hm.2;unfold SymRS at hcall;rw [show ((a+bs:Nat):Int)=(a:Int)+(bs:Int) by omega,HH.out.2.2.2] at hcall;clear S1 hm;go_wp2_with (go_at_fn 171;refine hcall.mono ?_;rintro e_ w1 ⟨rfl,d1,S2,X,Y⟩;have S3:Aside (SRow w0 blk cap d1 w1):=S2;have T:Hid (SortedIn (ltOf cf) a n d1∧PermIn a n dk d1):=(⟨X,Y⟩:_∧_);clear X Y S2)
        go_roundg (n - 2*bs)
        case measure=>omega
        case rel=>
          have HB2:Hid (Blocks (ltOf cf) (2*bs) n d1∧PermIn 0 n d d1∧d1.size=n):=by
            obtain ⟨q1,q2,q3,q4⟩:=HH.out;have e2:min (t*(2*bs)+2*bs) n=n:=by omega
            have T1:=T.out;rw [q1] at T1
            show _∧_∧_
            exact ⟨mixed_last (mixed_step q2 (by rw [e2];exact T1.2) (by rw [e2];exact T1.1)) (by omega),part_perm q3 T.out.2 (Nat.le_refl _) (by omega),by rw [T.out.2.1];exact q4⟩
          exact ⟨2*bs,d1,by rw [show ((2*bs:Nat):Int)=(bs:Int)*2 by omega],by omega,by omega,Nat.le_refl _,S3,HB2⟩
end Go.Proofs.Ytahidkjncljkaaa.Print

namespace Go.Proofs.Ytahidkjncljkaaa.Print
open Go.RowKit Go.Proofs.YtahidkjncljkaaaW.PrintWords Go.Proofs.YtahidkjncljkaaaW.PrintLast Go.Proofs.YtahidkjncljkaaaW.PrintMore
def cmpI (x y:Int):Int:=if x<y then -1 else if y<x then 1 else 0
def cmpS (x y:ByteArray):Int:=if lt x y=true then -1 else if lt y x=true then 1 else 0
set_option maxRecDepth 100000 in
theorem isNaNI_calls (x:Int) (w:World):Calls Try.prog 117 #[.int .i64 x] w fun e w'=>e= .returned (.bool false)∧w'=w:=by
 go_enter Try.func117,Try.ntmps117;go_wp2
 go_ret
 exact ⟨by simp,rfl⟩
set_option maxRecDepth 100000 in
theorem isNaNS_calls (x:ByteArray) (w:World):Calls Try.prog 118 #[.string x] w fun e w'=>e= .returned (.bool false)∧w'=w:=by
 go_enter Try.func118,Try.ntmps118;go_wp2
 go_ret
 exact ⟨by simp,rfl⟩
set_option maxHeartbeats 1000000 in
set_option maxRecDepth 100000 in
theorem cmpI_calls (x y:Int) (w:World):Calls Try.prog 81 #[.int .i64 x, .int .i64 y] w fun e w'=>e= .returned (.int .i64 (cmpI x y))∧w'=w:=by
  by_cases h1:x<y
  · go_enter Try.func81, Try.ntmps81
    go_wp2_with (go_at_call 117;refine (isNaNI_calls _ _).mono ?_;rintro e w1 ⟨rfl,rfl⟩)
    go_ret
    exact ⟨by unfold cmpI;rw [if_pos h1];rfl,rfl⟩
  by_cases h2:y<x
  · go_enter Try.func81, Try.ntmps81
    go_wp2_with (go_at_call 117;refine (isNaNI_calls _ _).mono ?_;rintro e w1 ⟨rfl,rfl⟩)
    go_ret
    exact ⟨by unfold cmpI;rw [if_neg (by omega),if_pos (by omega)];rfl,rfl⟩
  go_enter Try.func81,Try.ntmps81;go_wp2_with (go_at_call 117;refine (isNaNI_calls _ _).mono ?_;rintro e w1 ⟨rfl,rfl⟩)
  go_ret
  exact ⟨by unfold cmpI;rw [if_neg (by omega),if_neg (by omega)];rfl,rfl⟩
set_option maxHeartbeats 1000000 in
set_option maxRecDepth 100000 in
theorem cmpS_calls (x y:ByteArray) (w:World):Calls Try.prog 82 #[.string x, .string y] w fun e w'=>e= .returned (.int .i64 (cmpS x y))∧w'=w:=by
  by_cases h1:lt x y=true
  · have g1 : Op.bytesLess x.toList y.toList = true := h1
    go_enter Try.func82,Try.ntmps82
    go_wp2_with (go_at_call 118;refine (isNaNS_calls _ _).mono ?_;rintro e w1 ⟨rfl,rfl⟩)
    go_ret
    exact ⟨by unfold cmpS;rw [if_pos h1];rfl,rfl⟩
  have g1:Op.bytesLess x.toList y.toList=false:=Bool.eq_false_iff.mpr h1;by_cases h2:lt y x=true
  · have g3 : (x.toList == y.toList) = false := beq_eq_false_iff_ne.mpr (fun q => by rw [nm_inj.1 q, lt_irrefl] at h2; cases h2)
    go_enter Try.func82,Try.ntmps82
    go_wp2_with (go_at_call 118;refine (isNaNS_calls _ _).mono ?_;rintro e w1 ⟨rfl,rfl⟩)
    go_ret
    exact ⟨by unfold cmpS;rw [if_neg h1,if_pos h2];rfl,rfl⟩
  have g3:(x.toList==y.toList)=true:=beq_iff_eq.mpr (nm_inj.2 (Classical.byContradiction fun q=>h2 (lt_total (Bool.eq_false_iff.mpr h1) q)));go_enter Try.func82,Try.ntmps82;go_wp2_with (go_at_call 118;refine (isNaNS_calls _ _).mono ?_;rintro e w1 ⟨rfl,rfl⟩)
  go_ret
  exact ⟨by unfold cmpS;rw [if_neg h1,if_neg h2];rfl,rfl⟩
def orI (x y:Int):Int:=if x=0 then y else x
set_option maxHeartbeats 1000000 in
set_option maxRecDepth 100000 in
theorem cmpOr_calls_ (b:Nat) (c:Nat) (x y:Int) (w:World) (h0:w.cell? ⟨b,0,none⟩=some (.int .i64 x)) (h1:w.cell? ⟨b,1,none⟩=some (.int .i64 y)):Calls Try.prog 80 #[.slice (some ⟨b,0,none⟩) 2 c] w fun e w'=>e= .returned (.int .i64 (if x=0 then y else x))∧w'=w:=by
  by_cases e1:x=0;rotate_left
  · have f1 : (x != 0) = true := bne_iff_ne.mpr e1
    go_enter Try.func80,Try.ntmps80
    go_wp2
    refine wp_loop_rounds 1 ?_
    rw [rounds_succ]
    go_wp2
    go_ret
    exact ⟨rfl,rfl⟩
  subst e1;by_cases e2:y=0;rotate_left
  · have f2 : (y != 0) = true := bne_iff_ne.mpr e2
    go_enter Try.func80,Try.ntmps80
    go_wp2
    refine wp_loop_rounds 2 ?_
    rw [rounds_succ]
    go_wp2
    rw [rounds_succ]
    go_wp2
    go_ret
    exact ⟨rfl,rfl⟩
  subst e2;go_enter Try.func80,Try.ntmps80;go_wp2
  refine wp_loop_rounds 3 ?_;rw [rounds_succ];go_wp2
  rw [rounds_succ];go_wp2
  rw [rounds_succ];go_wp2
  go_ret
  exact ⟨rfl,rfl⟩
theorem cmpOr_calls (b:Nat) (c:Nat) (x y:Int) (w:World) (h0:w.cell? ⟨b,0,none⟩=some (.int .i64 x)) (h1:w.cell? ⟨b,1,none⟩=some (.int .i64 y)):Calls Try.prog 80 #[.slice (some ⟨b,0,none⟩) 2 c] w fun e w'=>e= .returned (.int .i64 (orI x y))∧w'=w:=cmpOr_calls_ b c x y w h0 h1
end Go.Proofs.Ytahidkjncljkaaa.Print

namespace Go.Proofs.Ytahidkjncljkaaa.Print
open Go.RowKit Go.Proofs.YtahidkjncljkaaaW.PrintWords Go.Proofs.YtahidkjncljkaaaW.PrintLast Go.Proofs.YtahidkjncljkaaaW.PrintMore
attribute [local go_sem] max2_int min2_int max_two min_two max_three min_three max_four min_four

set_option maxHeartbeats 8000000 in
set_option maxRecDepth 100000 in
theorem wantMade_calls (A:Option Addr) (c:Nat) (l:List S39) (w:World) (hr:Kd.C k39 w A l.length l) (hc:l.length≤c) (hl:l.length≤1000) (hs:smallW l):
  Calls Try.prog 76 #[.slice A l.length c] w fun e w'=> ∃b mb n,e= .returned (.pointer (some ⟨b,0,none⟩))∧w.heap.size≤b∧w'.heap[b]?=some (.cells #[.slice A l.length c, .map (some mb)] 113 (0,0))∧MapAt w' mb n (fillR l)∧Below w.heap.size w w':=by
 have hu113:=Try.underlying113
 have hu110:=Try.underlying110
 have HR:=Aside0.mk hr
 have HC:=Aside0.mk hc
 have HS:=Aside0.mk hs
 have HB:=am_ (Below.refl w.heap.size w)
 clear hr hc hs
 go_enter Try.func76,Try.ntmps76
 go_wp2_with (first|((with_reducible refine gate_dst (N:=7) rfl ?_);refine bx_ (N:=7) (cs:=#[.slice A l.length c, .map none]) (t:=113) ?_;intro gb7 hg w2 hbox hb;have BK7:=am_ (hbox);have GE7:=am_ ((by rw [hg];exact below_size HB.out:w.heap.size≤gb7));replace HB:=am_ (below_step HB.out hb);have EQ7:=am_ (hg);clear hb hbox hg)|(go_at_call 74;refine (wantFill_calls w _ gb7 A c l none BK7.out GE7.out HB.out HR.out HC.out hl HS.out).mono ?_;rintro e w3 ⟨rfl,mb,n,hbk,hm,hb,_⟩;have BK:=Aside0.mk hbk;have MP:=Aside0.mk hm;have HB3:=Aside0.mk hb;clear hbk hm hb))
 go_ret
 exact ⟨gb7,mb,n,rfl,GE7.out,BK.out,MP.out,HB3.out⟩


end Go.Proofs.Ytahidkjncljkaaa.Print

namespace Go.Proofs.Ytahidkjncljkaaa.Print
open Go.RowKit Go.Proofs.YtahidkjncljkaaaW.PrintWords Go.Proofs.YtahidkjncljkaaaW.PrintLast Go.Proofs.YtahidkjncljkaaaW.PrintMore
def cmpW (f:ByteArray→Int) (x y:ByteArray):Int:=orI (cmpI (f x) (f y)) (cmpS x y)
set_option maxHeartbeats 8000000 in
set_option maxRecDepth 100000 in
theorem wantTop1_calls (w:World) (gd b mb n:Nat) (v0:Value) (f:ByteArray→Int) (hgd:w.heap[gd]?=some (.cells #[.pointer (some ⟨b,0,none⟩)] 108 (0,0))) (hb:w.heap[b]?=some (.cells #[v0, .map (some mb)] 113 (0,0))) (hm:MapAt w mb n f) (x y:S39) (hx:x.f0.size≤maxLen) (hy:y.f0.size≤maxLen):
    Calls Try.prog 79 #[.agg #[.string x.f0, .string x.f1, .int .i64 x.f2.f0, .int .i64 x.f2.f1, .int .i64 x.f2.f2], .agg #[.string y.f0, .string y.f1, .int .i64 y.f2.f0, .int .i64 y.f2.f1, .int .i64 y.f2.f2], .pointer (some ⟨gd,0,none⟩)] w fun e w'=>e= .returned (.int .i64 (cmpW f x.f0 y.f0))∧ ∃q os',w'=Sort.grow (w.drewN q) os':=by
  have hu113:=Try.underlying113;have hu39:=Try.underlying39;have HX:=Aside0.mk hx;have HY:=Aside0.mk hy;obtain ⟨wB,hwB⟩: ∃wB,wB=((w.alloc (.cells #[.string x.f0, .string x.f1, .int .i64 x.f2.f0, .int .i64 x.f2.f1, .int .i64 x.f2.f2] 39)).alloc (.cells #[.string y.f0, .string y.f1, .int .i64 y.f2.f0, .int .i64 y.f2.f1, .int .i64 y.f2.f2] 39)).drew:=⟨_,rfl⟩;have hs1:(w.alloc (.cells #[.string x.f0, .string x.f1, .int .i64 x.f2.f0, .int .i64 x.f2.f1, .int .i64 x.f2.f2] 39)).heap.size=w.heap.size+1:=by simp
  have HGD:=am_ (show wB.heap[gd]?=some _ by rw [hwB];exact blk_drew (blk_alloc (blk_alloc hgd _) _));have HBK:=am_ (show wB.heap[b]?=some _ by rw [hwB];exact blk_drew (blk_alloc (blk_alloc hb _) _));have HM:=am_ (show MapAt wB mb n f by rw [hwB];exact ((hm.below (below_alloc (Below.refl _ _) _)).below (below_alloc (Below.refl _ _) _)).kept rfl);have H3:=am_ (show wB.heap[w.heap.size]?=some (.cells #[.string x.f0, .string x.f1, .int .i64 x.f2.f0, .int .i64 x.f2.f1, .int .i64 x.f2.f2] 39 (0,0)) by rw [hwB];exact blk_drew (blk_alloc (blk_new _ _) _));have H4:=am_ (show wB.heap[w.heap.size+1]?=some (.cells #[.string y.f0, .string y.f1, .int .i64 y.f2.f0, .int .i64 y.f2.f1, .int .i64 y.f2.f2] 39 (0,0)) by rw [hwB,←hs1];exact blk_drew (blk_new _ _));have HW:=am_ (show wB=Sort.grow (w.drewN 1) #[.cells #[.string x.f0, .string x.f1, .int .i64 x.f2.f0, .int .i64 x.f2.f1, .int .i64 x.f2.f2] 39, .cells #[.string y.f0, .string y.f1, .int .i64 y.f2.f0, .int .i64 y.f2.f1, .int .i64 y.f2.f2] 39] by rw [hwB,Sort.alloc_eq_grow,Sort.alloc_eq_grow,Sort.grow_grow];rfl);have HWB:=Aside0.mk hwB;clear hgd hb hm hx hy hwB hs1;obtain ⟨g3,hg3⟩: ∃g3,g3=w.heap.size:=⟨_,rfl⟩;obtain ⟨g4,hg4⟩: ∃g4,g4=w.heap.size+1:=⟨_,rfl⟩;rw [←hg3] at H3;rw [←hg4] at H4;go_enter Try.func79,Try.ntmps79;go_upto_region 1 with (fail)
  rw [←hg4,←hg3];clear hg3 hg4;refine start_ (n:=23) (S:=fun w'=>w'.cell? ⟨gd,0,none⟩=some (.pointer (some ⟨b,0,none⟩))∧w'.cell? ⟨b,1,none⟩=some (.map (some mb))∧w'.cell? ⟨g3,0,none⟩=some (.string x.f0)∧w'.cell? ⟨g4,0,none⟩=some (.string y.f0)∧(Instr.lookup 111 (.map (some mb)) (.string x.f0) false).run Try.prog w'= .ok (.int .i64 (f x.f0)) w'∧(Instr.lookup 111 (.map (some mb)) (.string y.f0) false).run Try.prog w'= .ok (.int .i64 (f y.f0)) w') (ds:=[]) (bt_ 23 0) (by kernel_rfl) rfl rfl (by rw [←HWB.out];exact ⟨(blk_cell HGD.out 0).trans rfl,(blk_cell HBK.out 1).trans rfl,(blk_cell H3.out 0).trans rfl,(blk_cell H4.out 0).trans rfl,HM.out.look Try.underlying111 HX.out _ rfl,HM.out.look Try.underlying111 HY.out _ rfl⟩) (fun hHeld=> ?_);rw [←HWB.out] at hHeld ⊢;generalize wB=w9 at HGD HBK HM H3 H4 HW hHeld ⊢;clear HWB;refine tv_ (i:=0) (N:=some 6) (bt_ 23 1) hHeld ?_;refine pv_ (i:=1) (N:=some 7) (bt_ 23 3) ?_;refine pv_ (i:=2) (N:=some 8) (bt_ 23 7) ?_;refine tv_ (i:=3) (N:=some 9) (bt_ 23 15) hHeld ?_;refine pv_ (i:=4) (N:=some 10) (bt_ 23 31) ?_;refine tv_ (i:=5) (N:=some 11) (bt_ 23 63) hHeld ?_;refine tv_ (i:=6) (N:=some 12) (bt_ 23 127) hHeld ?_;refine tv_ (i:=7) (N:=some 13) (bt_ 23 255) hHeld ?_;refine pv_ (i:=8) (N:=some 14) (bt_ 23 511) ?_;refine pv_ (i:=9) (N:=some 15) (bt_ 23 1023) ?_;refine tv_ (i:=10) (N:=some 16) (bt_ 23 2047) hHeld ?_;refine pv_ (i:=11) (N:=some 17) (bt_ 23 4095) ?_;refine tv_ (i:=12) (N:=some 18) (bt_ 23 8191) hHeld ?_
  refine tv_ (i:=13) (N:=some 19) (bt_ 23 16383) hHeld ?_;refine pv_ (i:=15) (N:=some 21) (bt_ 23 49151) ?_;refine tv_ (i:=16) (N:=some 22) (bt_ 23 114687) hHeld ?_;refine pv_ (i:=17) (N:=some 23) (bt_ 23 245759) ?_;refine tv_ (i:=18) (N:=some 24) (bt_ 23 507903) hHeld ?_;refine one_ (i:=14) (N:=some 20) (bt_ 23 524287) rfl rfl (by kernel_rfl) (by decide) (fun K hK=> ?_);refine goes_ Try.func81 (by kernel_rfl) rfl #[.int .i64 (f x.f0), .int .i64 (f y.f0)] (by rfl) rfl rfl (by (try simp only [List.map_toArray,List.map_cons,List.map_nil]);rfl) ?_;refine (cmpI_calls (f x.f0) (f y.f0) _).mono ?_;rintro e wq ⟨rfl,hwq⟩;rw [hwq];clear hwq wq;refine ⟨_,rfl, ?_⟩;refine hK.out _ _ ⟨(blk_cell HGD.out 0).trans rfl,(blk_cell HBK.out 1).trans rfl,(blk_cell H3.out 0).trans rfl,(blk_cell H4.out 0).trans rfl,HM.out.look Try.underlying111 HX.out _ rfl,HM.out.look Try.underlying111 HY.out _ rfl⟩ (fun hHeld=> ?_);clear hK K;refine norm_ (a':= ?_) ?_ ?_;rotate_left
  · show Act.put _ (some 20) _ = _
    simp only [Act.put,List.setIfInBounds_toArray,List.set_cons_zero,List.set_cons_succ,i64_w,i32_w]
    rfl
  refine one_ (i:=19) (N:=some 25) (bt_ 23 1048575) rfl rfl (by kernel_rfl) (by decide) (fun K hK=> ?_);refine goes_ Try.func82 (by kernel_rfl) rfl #[.string x.f0, .string y.f0] (by rfl) rfl rfl (by (try simp only [List.map_toArray,List.map_cons,List.map_nil]);rfl) ?_;refine (cmpS_calls x.f0 y.f0 _).mono ?_;rintro e wq ⟨rfl,hwq⟩;rw [hwq];clear hwq wq;refine ⟨_,rfl, ?_⟩;refine hK.out _ _ ⟨(blk_cell HGD.out 0).trans rfl,(blk_cell HBK.out 1).trans rfl,(blk_cell H3.out 0).trans rfl,(blk_cell H4.out 0).trans rfl,HM.out.look Try.underlying111 HX.out _ rfl,HM.out.look Try.underlying111 HY.out _ rfl⟩ (fun hHeld=> ?_);clear hK K;refine norm_ (a':= ?_) ?_ ?_;rotate_left
  · show Act.put _ (some 25) _ = _
    simp only [Act.put,List.setIfInBounds_toArray,List.set_cons_zero,List.set_cons_succ,i64_w,i32_w]
    rfl
  refine one_ (i:=20) (N:=some 26) (bt_ 23 2097151) rfl rfl (by kernel_rfl) (by decide) (fun K hK=> ?_);refine event_step (by rfl) (v:= .slice (some ⟨w9.heap.size,0,none⟩) 2 2) (w1:=w9.alloc (.cells #[.int .i64 (cmpI (f x.f0) (f y.f0)), .int .i64 (cmpS x.f0 y.f0)] 3)) ?hr ?_;(case hr=>first|(go_simp;done)|(go_simp;rfl));have hn:=blk_new w9 (.cells #[.int .i64 (cmpI (f x.f0) (f y.f0)), .int .i64 (cmpS x.f0 y.f0)] 3 (0,0));have n0_:=am_ (blk_alloc HGD.out (.cells #[.int .i64 (cmpI (f x.f0) (f y.f0)), .int .i64 (cmpS x.f0 y.f0)] 3));have n1_:=am_ (blk_alloc HBK.out (.cells #[.int .i64 (cmpI (f x.f0) (f y.f0)), .int .i64 (cmpS x.f0 y.f0)] 3));have n2_:=am_ (blk_alloc H3.out (.cells #[.int .i64 (cmpI (f x.f0) (f y.f0)), .int .i64 (cmpS x.f0 y.f0)] 3));have n3_:=am_ (blk_alloc H4.out (.cells #[.int .i64 (cmpI (f x.f0) (f y.f0)), .int .i64 (cmpS x.f0 y.f0)] 3));have n4_:=am_ (HM.out.below (below_alloc (Below.refl _ _) (.cells #[.int .i64 (cmpI (f x.f0) (f y.f0)), .int .i64 (cmpS x.f0 y.f0)] 3)));have HN:=Aside0.mk hn;clear hn;obtain ⟨gs,hgs⟩: ∃gs,gs=w9.heap.size:=⟨_,rfl⟩;rw [←hgs] at HN ⊢;obtain ⟨wA,hwA⟩: ∃wA,wA=w9.alloc (.cells #[.int .i64 (cmpI (f x.f0) (f y.f0)), .int .i64 (cmpS x.f0 y.f0)] 3):=⟨_,rfl⟩;rw [←hwA] at HN n0_ n1_ n2_ n3_ n4_ ⊢;clear hgs;have HWA:=Aside0.mk hwA;clear hwA HGD HBK H3 H4 HM;have HGD:=n0_;have HBK:=n1_;have H3:=n2_;have H4:=n3_;have HM:=n4_;clear n0_ n1_ n2_ n3_ n4_
  refine hK.out _ _ ⟨(blk_cell HGD.out 0).trans rfl,(blk_cell HBK.out 1).trans rfl,(blk_cell H3.out 0).trans rfl,(blk_cell H4.out 0).trans rfl,HM.out.look Try.underlying111 HX.out _ rfl,HM.out.look Try.underlying111 HY.out _ rfl⟩ (fun hHeld=> ?_);clear hK K;refine norm_ (a':= ?_) ?_ ?_;rotate_left
  · show Act.put _ (some 26) _ = _
    simp only [Act.put,List.setIfInBounds_toArray,List.set_cons_zero,List.set_cons_succ,i64_w,i32_w]
    rfl
  refine one_ (i:=21) (N:=some 27) (bt_ 23 4194303) rfl rfl (by kernel_rfl) (by decide) (fun K hK=> ?_);refine goes_ Try.func80 (by kernel_rfl) rfl #[.slice (some ⟨gs,0,none⟩) 2 2] (by rfl) rfl rfl (by (try simp only [List.map_toArray,List.map_cons,List.map_nil]);rfl) ?_;refine (cmpOr_calls gs 2 (cmpI (f x.f0) (f y.f0)) (cmpS x.f0 y.f0) wA ((blk_cell HN.out 0).trans rfl) ((blk_cell HN.out 1).trans rfl)).mono ?_;rintro e wq ⟨rfl,hwq⟩;rw [hwq];clear hwq wq;refine ⟨_,rfl, ?_⟩;refine hK.out _ _ ⟨(blk_cell HGD.out 0).trans rfl,(blk_cell HBK.out 1).trans rfl,(blk_cell H3.out 0).trans rfl,(blk_cell H4.out 0).trans rfl,HM.out.look Try.underlying111 HX.out _ rfl,HM.out.look Try.underlying111 HY.out _ rfl⟩ (fun hHeld=> ?_);clear hK K;refine norm_ (a':= ?_) ?_ ?_;rotate_left
  · show Act.put _ (some 27) _ = _
    simp only [Act.put,List.setIfInBounds_toArray,List.set_cons_zero,List.set_cons_succ,i64_w,i32_w]
    rfl
  refine pv_ (i:=22) (N:=some 5) (bt_ 23 8388607) ?_;refine done_ (by kernel_rfl) ?_;go_wp2
  go_ret
  exact ⟨rfl,1,#[.cells #[.string x.f0, .string x.f1, .int .i64 x.f2.f0, .int .i64 x.f2.f1, .int .i64 x.f2.f2] 39, .cells #[.string y.f0, .string y.f1, .int .i64 y.f2.f0, .int .i64 y.f2.f1, .int .i64 y.f2.f2] 39]++#[.cells #[.int .i64 (cmpI (f x.f0) (f y.f0)), .int .i64 (cmpS x.f0 y.f0)] 3],by rw [HWA.out,HW.out,Sort.alloc_eq_grow,Sort.grow_grow]⟩
end Go.Proofs.Ytahidkjncljkaaa.Print

/- WantMade: a part -/
import Derived.Shelf.SlSortCmp.KitK
import Derived.Deep.LoopGhost
import Derived.Shelf.Abstract
import Derived.Laws.Cover1
import Derived.WalkSpells
import Derived.Sort.Grow
import Derived.Shelf.GgSortFunc.RowK
import Derived.Test.YtahidkjncljkaaaBWantMade1
set_option linter.unusedVariables false
set_option linter.unusedSimpArgs false
namespace Go.Proofs.Ytahidkjncljkaaa.Print
open Go.Shelf Go.RowKit Go.Lib Go.Sort
structure SortT (P:Program) (k:Nat):Prop where
 mixed:P.follows .mixedOrders=true
 t0:P.underlying 0=some (TypeDesc.tuple #[])
 a0: ∀w,(isAgg 0).run P w= .ok false w
 z0: ∀w,(Go.sizeOf 0).run P w= .ok 1 w
 v0: ∀w,(zeroValue 0).run P w= .ok (Value.tuple #[]) w
 t3:P.underlying 3=some (TypeDesc.int IntKind.i64)
 a3: ∀w,(isAgg 3).run P w= .ok false w
 z3: ∀w,(Go.sizeOf 3).run P w= .ok 1 w
 v3: ∀w,(zeroValue 3).run P w= .ok (Value.int IntKind.i64 0) w
 t4:P.underlying 4=some (TypeDesc.bool)
 a4: ∀w,(isAgg 4).run P w= .ok false w
 z4: ∀w,(Go.sizeOf 4).run P w= .ok 1 w
 v4: ∀w,(zeroValue 4).run P w= .ok (Value.bool false) w
 t5:P.underlying 207=some (TypeDesc.int IntKind.u64)
 a5: ∀w,(isAgg 207).run P w= .ok false w
 z5: ∀w,(Go.sizeOf 207).run P w= .ok 1 w
 v5: ∀w,(zeroValue 207).run P w= .ok (Value.int IntKind.u64 0) w
 t22:P.underlying 22=some (TypeDesc.slice 39)
 a22: ∀w,(isAgg 22).run P w= .ok false w
 z22: ∀w,(Go.sizeOf 22).run P w= .ok 1 w
 v22: ∀w,(zeroValue 22).run P w= .ok (Value.slice none 0 0) w
 t25:P.underlying 121=some (TypeDesc.func #[39,39] #[3] false)
 a25: ∀w,(isAgg 121).run P w= .ok false w
 z25: ∀w,(Go.sizeOf 121).run P w= .ok 1 w
 v25: ∀w,(zeroValue 121).run P w= .ok (Value.nilFunc) w
 aE: ∀w,(isAgg 39).run P w= .ok true w
 zE: ∀w,(Go.sizeOf 39).run P w= .ok k w

set_option maxHeartbeats 4000000 in
set_option maxRecDepth 1000000 in
theorem swapRange_w {P:Program} {α:Type} [Inhabited α] (F:P.funcs[176]?=some Try.f176) {k:Nat} (L:SortT P k) (enc:α→List Value) (g:Nat) (cb:Array Value) (blk off cap a b n:Nat) (d0 d:Array α) (w0 w:World)
    (R:RowK enc k w0 blk off d0) (hs:d0.size=d.size) (S:SWK enc k w0 blk off d w) (hab:a+n≤b) (hb:b+n≤d.size) (hsz:d.size<4611686018427387904):
    Calls P 176 #[.slice (some ⟨blk,off,none⟩) d.size cap, .int .i64 a, .int .i64 b, .int .i64 n, .func (.func g) #[] cb] w fun e w'=>e= .returned (.tuple #[])∧ ∃d',SWK enc k w0 blk off d' w'∧SwapAt a b n d d'∧PermIn a (b+n) d d':=by
  have mixed:=L.mixed;have t0:=L.t0;have a0:=L.a0;have z0:=L.z0;have v0:=L.v0;have t3:=L.t3;have a3:=L.a3;have z3:=L.z3;have v3:=L.v3;have t4:=L.t4;have a4:=L.a4;have z4:=L.z4;have v4:=L.v4;have t5:=L.t5;have a5:=L.a5;have z5:=L.z5;have v5:=L.v5;have t22:=L.t22;have a22:=L.a22;have z22:=L.z22;have v22:=L.v22;have t25:=L.t25;have a25:=L.a25;have z25:=L.z25;have v25:=L.v25;have aE:=L.aE;have zE:=L.zE
  have u0:=run_underlying L.t0;have u3:=run_underlying L.t3;have u4:=run_underlying L.t4;have u5:=run_underlying L.t5;have u22:=run_underlying L.t22
  have S0:Aside (SWK enc k w0 blk off d w):=S
  clear S
  go_enter F,Try.ntmps176
  go_wp2
  go_loopg [10] n (fun kx s10 wr=> ∃(i:Nat) (dk:Array α),s10= .int .i64 i∧i≤n∧n - i≤kx∧dk.size=d.size∧Aside (SWK enc k w0 blk off dk wr)∧Hid (SwapAt a b i d dk∧PermIn a (b+n) d dk))
  case atStart=>exact ⟨0,d,rfl,by omega,by omega,rfl,S0,(⟨swapAt_zero _ _ _,permIn_refl _ _ _⟩:_∧_)⟩
  case round=>
    clear S0
    obtain ⟨i,dk,rfl,hin,hkx,hds,S1,HH⟩:=hrel
    by_cases hlt:i<n
    · have hltz : (i : Int) < (n : Int) := by omega
      go_wp2_with fail
      have eaq:((a:Int)+(i:Int)).toNat=a+i:=by omega
      have paq:(0:Int)≤(a:Int)+(i:Int):=by omega
      have baq:(a:Int)+(i:Int)<(d.size:Int):=by omega
      have raq:IntKind.i64.wrap ((a:Int)+(i:Int))=(a:Int)+(i:Int):=by rw [IntKind.wrap_i64];omega
      have ecq:((b:Int)+(i:Int)).toNat=b+i:=by omega
      have pcq:(0:Int)≤(b:Int)+(i:Int):=by omega
      have bcq:(b:Int)+(i:Int)<(d.size:Int):=by omega
      have rcq:IntKind.i64.wrap ((b:Int)+(i:Int))=(b:Int)+(i:Int):=by rw [IntKind.wrap_i64];omega
      have S2:Aside (SWK enc k w0 blk off (swp dk (a+i) (b+i)) ((wr.drew.setCells blk (off+(a+i)*k) (enc dk[b+i]!)).setCells blk (off+(b+i)*k) (enc dk[a+i]!))):=S1.out.swapped R (a+i) (b+i) (by omega) (by omega)
      have laq:=S1.out.ld1 R (by omega) P (a+i) (by omega)
      have lbq:=S1.out.ld1 R (by omega) P (b+i) (by omega)
      have saq:=S1.out.st1 R (by omega) P (a+i) (by omega) dk[b+i]!
      have sbq:=S1.out.st2 R (by omega) P (a+i) (b+i) (by omega) (by omega) dk[b+i]! dk[a+i]!
      have naq:(enc dk[a+i]!).length=k:=R.hk _
      have nbq:(enc dk[b+i]!).length=k:=R.hk _
      generalize enc dk[a+i]! =cIq at S2 laq sbq naq
      generalize enc dk[b+i]! =cJq at S2 lbq saq sbq nbq
      clear S1
      go_wp2_with fail
      go_big_region_o
      clear laq lbq saq sbq
      generalize (wr.drew.setCells blk (off+(a+i)*k) cJq).setCells blk (off+(b+i)*k) cIq=w2 at S2 ⊢
      go_wp2
      go_roundg (n - (i+1))
      case measure=>omega
      case rel=>
        have HH2:Hid (SwapAt a b (i+1) d (swp dk (a+i) (b+i))∧PermIn a (b+n) d (swp dk (a+i) (b+i))):=(⟨swapAt_step HH.out.1 (by omega) (by omega),permIn_trans _ _ _ _ _ HH.out.2 (swp_permIn dk a (b+n) (a+i) (b+i) (by omega) (by omega) (by omega) (by omega) (by omega))⟩:_∧_)
        exact ⟨i+1,swp dk (a+i) (b+i),by go_num,by omega,Nat.le_refl _,by rw [size_swp];exact hds,S2,HH2⟩
    · have hltz : ¬ (i : Int) < (n : Int) := by omega
      obtain rfl:i=n:=by omega
      go_wp2
      go_end0
      exact ⟨rfl,dk,S1.out,HH.out.1,HH.out.2⟩
set_option maxHeartbeats 4000000 in
set_option maxRecDepth 1000000 in
theorem rotate_w {P:Program} {α:Type} [Inhabited α] (FS:P.funcs[176]?=some Try.f176) (F:P.funcs[169]?=some Try.f169) {k:Nat} (L:SortT P k) (enc:α→List Value) (g:Nat) (cb:Array Value) (blk off cap a m b:Nat) (d0 d:Array α) (w0 w:World)
    (R:RowK enc k w0 blk off d0) (hs:d0.size=d.size) (S:SWK enc k w0 blk off d w) (ham:a<m) (hmb:m<b) (hb:b≤d.size) (hsz:d.size<4611686018427387904):
    Calls P 169 #[.slice (some ⟨blk,off,none⟩) d.size cap, .int .i64 a, .int .i64 m, .int .i64 b, .func (.func g) #[] cb] w fun e w'=>e= .returned (.tuple #[])∧ ∃d',SWK enc k w0 blk off d' w'∧RotAt a m b d d'∧PermIn a b d d':=by
  have mixed:=L.mixed;have t0:=L.t0;have a0:=L.a0;have z0:=L.z0;have v0:=L.v0;have t3:=L.t3;have a3:=L.a3;have z3:=L.z3;have v3:=L.v3;have t4:=L.t4;have a4:=L.a4;have z4:=L.z4;have v4:=L.v4;have t5:=L.t5;have a5:=L.a5;have z5:=L.z5;have v5:=L.v5;have t22:=L.t22;have a22:=L.a22;have z22:=L.z22;have v22:=L.v22;have t25:=L.t25;have a25:=L.a25;have z25:=L.z25;have v25:=L.v25;have aE:=L.aE;have zE:=L.zE
  have u0:=run_underlying L.t0;have u3:=run_underlying L.t3;have u4:=run_underlying L.t4;have u5:=run_underlying L.t5;have u22:=run_underlying L.t22
  have S0:Aside (SWK enc k w0 blk off d w):=S
  clear S
  have eS: ∀args w,(callFunc 176 args).run P w= .ok (.enter 176 args) w:=enters_of FS (by kernel_rfl) rfl
  go_enter F,Try.ntmps169
  go_wp2
  go_loopg [10,11] (b - a) (fun kx s10 s11 wr=> ∃(i j:Nat) (dk:Array α),s10= .int .i64 i∧s11= .int .i64 j∧0<i∧0<j∧i≤m - a∧j≤b - m∧i+j≤kx∧dk.size=d.size∧Aside (SWK enc k w0 blk off dk wr)∧Hid ((∀d',RotAt (m - i) m (m+j) dk d'→RotAt a m b d d')∧PermIn a b d dk))
  case atStart=>exact ⟨m - a,b - m,d,by rw [show ((m - a:Nat):Int)=(m:Int) - (a:Int) by omega],by rw [show ((b - m:Nat):Int)=(b:Int) - (m:Int) by omega],by omega,by omega,by omega,by omega,by omega,rfl,S0,(⟨fun d' h=>by rwa [show m - (m - a)=a by omega,show m+(b - m)=b by omega] at h,permIn_refl _ _ _⟩:_∧_)⟩
  case round=>
    clear S0
    obtain ⟨i,j,dk,rfl,rfl,hi0,hj0,him,hjm,hkx,hds,S1,HH⟩:=hrel
    by_cases hne:i=j
    · subst hne
      have ha':((m - i:Nat):Int)=(m:Int) - (i:Int):=by omega
      have hcall:=swapRange_w FS L enc g cb blk off cap (m - i) m i d0 dk w0 wr R (by omega) S1.out (by omega) (by omega) (by omega)
      rw [ha',hds] at hcall
      clear S1
      have hnz:((i:Int) !=(i:Int))=false:=by simp
      go_wp2_with (go_at_fn 176;refine hcall.mono ?_;rintro e w1 ⟨rfl,d',S2,X,Y⟩;have XX:Hid (SwapAt (m - i) m i dk d'∧PermIn (m - i) (m+i) dk d'):=(⟨X,Y⟩:_∧_);have S3:Aside (SWK enc k w0 blk off d' w1):=S2;clear X Y S2)
      go_end0
      exact ⟨rfl,d',S3.out,HH.out.1 d' (rot_same (by omega) XX.out.1),permIn_trans _ _ _ _ _ HH.out.2 (permIn_mono dk d' (m - i) (m+i) a b (by omega) (by omega) (by omega) XX.out.2)⟩
    · have hnz : ((i : Int) != (j : Int)) = true := by simp; omega
      by_cases hgt:j<i
      · have hgz : (j : Int) < (i : Int) := by omega
        have ha':((m - i:Nat):Int)=(m:Int) - (i:Int):=by omega
        have hcall:=swapRange_w FS L enc g cb blk off cap (m - i) m j d0 dk w0 wr R (by omega) S1.out (by omega) (by omega) (by omega)
        rw [ha',hds] at hcall
        clear S1
        go_wp2_with (go_at_fn 176;refine hcall.mono ?_;rintro e w1 ⟨rfl,d',S2,X,Y⟩;have XX:Hid (SwapAt (m - i) m j dk d'∧PermIn (m - i) (m+j) dk d'):=(⟨X,Y⟩:_∧_);have S3:Aside (SWK enc k w0 blk off d' w1):=S2;clear X Y S2)
        go_roundg (i - j+j)
        case measure=>omega
        case rel=>
          have hd':d'.size=d.size:=by rw [XX.out.1.1];exact hds
          have HH2:Hid ((∀d2,RotAt (m - (i - j)) m (m+j) d' d2→RotAt a m b d d2)∧PermIn a b d d'):=(⟨fun d2 h=>HH.out.1 d2 (rot_more hgt (by omega) XX.out.1 h),permIn_trans _ _ _ _ _ HH.out.2 (permIn_mono dk d' (m - i) (m+j) a b (by omega) (by omega) (by omega) XX.out.2)⟩:_∧_)
          exact ⟨i - j,j,d',by rw [show ((i - j:Nat):Int)=(i:Int) - (j:Int) by omega],rfl,by omega,hj0,by omega,hjm,Nat.le_refl _,hd',S3,HH2⟩
      · have hgz : ¬ (j : Int) < (i : Int) := by omega
        have ha':((m - i:Nat):Int)=(m:Int) - (i:Int):=by omega
        have hb':((m+j - i:Nat):Int)=(m:Int)+(j:Int) - (i:Int):=by omega
        have hcall:=swapRange_w FS L enc g cb blk off cap (m - i) (m+j - i) i d0 dk w0 wr R (by omega) S1.out (by omega) (by omega) (by omega)
        rw [ha',hb',hds] at hcall
        clear S1
        go_wp2_with (go_at_fn 176;refine hcall.mono ?_;rintro e w1 ⟨rfl,d',S2,X,Y⟩;have XX:Hid (SwapAt (m - i) (m+j - i) i dk d'∧PermIn (m - i) (m+j - i+i) dk d'):=(⟨X,Y⟩:_∧_);have S3:Aside (SWK enc k w0 blk off d' w1):=S2;clear X Y S2)
        go_roundg (i+(j - i))
        case measure=>omega
        case rel=>
          have hd':d'.size=d.size:=by rw [XX.out.1.1];exact hds
          have HH2:Hid ((∀d2,RotAt (m - i) m (m+(j - i)) d' d2→RotAt a m b d d2)∧PermIn a b d d'):=(⟨fun d2 h=>HH.out.1 d2 (rot_less (by omega) (by omega) XX.out.1 h),permIn_trans _ _ _ _ _ HH.out.2 (permIn_mono dk d' (m - i) (m+j - i+i) a b (by omega) (by omega) (by omega) XX.out.2)⟩:_∧_)
          exact ⟨i,j - i,d',rfl,by rw [show ((j - i:Nat):Int)=(j:Int) - (i:Int) by omega],hi0,by omega,him,by omega,Nat.le_refl _,hd',S3,HH2⟩
def SymR {α:Type} [Inhabited α] (P:Program) (enc:α→List Value) (cf:α→α→Int) (k g:Nat) (cb:Array Value) (blk off cap:Nat) (w0:World) (a m b:Nat) (d:Array α) (w:World):Prop:=
 Calls P 148 #[.slice (some ⟨blk,off,none⟩) d.size cap, .int .i64 a, .int .i64 m, .int .i64 b, .func (.func g) #[] cb] w fun e w'=>e= .returned (.tuple #[])∧ ∃d',SWK enc k w0 blk off d' w'∧SortedIn (ltOf cf) a b d'∧PermIn a b d d'
def SymN {α:Type} [Inhabited α] (P:Program) (enc:α→List Value) (cf:α→α→Int) (k g:Nat) (cb:Array Value) (blk off cap:Nat) (d0:Array α) (w0:World) (N:Nat):Prop:=
 ∀(a m b:Nat) (d:Array α) (w:World),b - a≤N→d0.size=d.size→SWK enc k w0 blk off d w→a<m→m<b→b≤d.size→SortedIn (ltOf cf) a m d→SortedIn (ltOf cf) m b d→SymR P enc cf k g cb blk off cap w0 a m b d w
set_option maxHeartbeats 8000000 in
set_option maxRecDepth 1000000 in
theorem symMerge_one {P:Program} {α:Type} [Inhabited α] (FS:P.funcs[176]?=some Try.f176) (FR:P.funcs[169]?=some Try.f169) (F:P.funcs[148]?=some Try.f148) {k:Nat} (L:SortT P k) (enc:α→List Value) (cf:α→α→Int) (g:Nat) (cb:Array Value) (blk off cap:Nat) (d0:Array α) (w0:World)
    (eg: ∀args w,(callFunc g args).run P w= .ok (.enter g args) w) (hcmp:CmpLays P g cb enc k cf blk off d0.size w0) (R:RowK enc k w0 blk off d0) (hO:SWO (ltOf cf)) (hsz:d0.size<2305843009213693952)
    (a m b:Nat) (d:Array α) (w:World) (c1:m=a+1) (hs:d0.size=d.size) (S:SWK enc k w0 blk off d w) (ham:a<m) (hmb:m<b) (hb:b≤d.size) (sA:SortedIn (ltOf cf) a m d) (sB:SortedIn (ltOf cf) m b d):SymR P enc cf k g cb blk off cap w0 a m b d w:=by
  unfold SymR
  have mixed:=L.mixed;have t0:=L.t0;have a0:=L.a0;have z0:=L.z0;have v0:=L.v0;have t3:=L.t3;have a3:=L.a3;have z3:=L.z3;have v3:=L.v3;have t4:=L.t4;have a4:=L.a4;have z4:=L.z4;have v4:=L.v4;have t5:=L.t5;have a5:=L.a5;have z5:=L.z5;have v5:=L.v5;have t22:=L.t22;have a22:=L.a22;have z22:=L.z22;have v22:=L.v22;have t25:=L.t25;have a25:=L.a25;have z25:=L.z25;have v25:=L.v25;have aE:=L.aE;have zE:=L.zE
  have u0:=run_underlying L.t0;have u3:=run_underlying L.t3;have u4:=run_underlying L.t4;have u5:=run_underlying L.t5;have u22:=run_underlying L.t22
  have eR: ∀args w,(callFunc 169 args).run P w= .ok (.enter 169 args) w:=enters_of FR (by kernel_rfl) rfl
  have eY: ∀args w,(callFunc 148 args).run P w= .ok (.enter 148 args) w:=enters_of F (by kernel_rfl) rfl
  have HC:Aside _:=hcmp
  have S0:Aside (SWK enc k w0 blk off d w):=S
  have SS:Hid (SortedIn (ltOf cf) a m d∧SortedIn (ltOf cf) m b d):=(⟨sA,sB⟩:_∧_)
  clear hcmp S sA sB
  have c1z:(m:Int) - (a:Int)=1:=by omega
  have C1:Hid (m=a+1):=c1
  clear c1
  go_enter F,Try.ntmps148
  go_wp2
  go_loopg [10,11] (b - a) (fun kx s10 s11 wr=> ∃lo hi:Nat,s10= .int .i64 lo∧s11= .int .i64 hi∧m≤lo∧lo≤hi∧hi≤b∧hi - lo≤kx∧Aside (SWK enc k w0 blk off d wr)∧Hid ((lo=m∨ltOf cf d[lo - 1]! d[a]! =true)∧(hi=b∨ltOf cf d[hi]! d[a]! =false)))
  case atStart=>exact ⟨m,b,rfl,rfl,Nat.le_refl _,by omega,Nat.le_refl _,by omega,S0,(⟨.inl rfl, .inl rfl⟩:_∧_)⟩
  case round=>
    clear S0
    obtain ⟨lo,hi,rfl,rfl,hml,hlh,hhb,hg,S1,I⟩:=hrel
    by_cases hlt:lo<hi
    · have hltz : (lo : Int) < (hi : Int) := by omega
      cases hlv:ltOf cf d[(lo+hi) / 2]! d[a]! with
      | true =>
        have eaht:(((lo:Int)+(hi:Int)) / 2).toNat=(lo+hi) / 2:=by omega
        have paht:(0:Int)≤((lo:Int)+(hi:Int)) / 2:=by omega
        have baht:((lo:Int)+(hi:Int)) / 2<(d.size:Int):=by omega
        have raht:IntKind.i64.wrap (((lo:Int)+(hi:Int)) / 2)=((lo:Int)+(hi:Int)) / 2:=by rw [IntKind.wrap_i64];omega
        have echt:((a:Int)).toNat=a:=by omega
        have pcht:(0:Int)≤(a:Int):=by omega
        have bcht:(a:Int)<(d.size:Int):=by omega
        have rcht:IntKind.i64.wrap ((a:Int))=(a:Int):=by rw [IntKind.wrap_i64];omega
        obtain ⟨xht,hxht⟩: ∃x,x=d[(lo+hi) / 2]!:=⟨_,rfl⟩
        obtain ⟨yht,hyht⟩: ∃x,x=d[a]!:=⟨_,rfl⟩
        have laht:=S1.out.ld R (by omega) P ((lo+hi) / 2) (by omega)
        have lbht:=S1.out.ld R (by omega) P (a) (by omega)
        rw [←hxht] at laht
        rw [←hyht] at lbht
        have hcht:=S1.out.cmp HC.out (by omega) xht yht
        have hvht:cf xht yht<0:=by rw [hxht,hyht];exact of_decide_eq_true hlv
        have hdht:decide (cf xht yht<0)=true:=decide_eq_true hvht
        clear hxht hyht
        go_wp2_with fail
        go_quiet_grown (first|(go_at_fn g;refine Calls.grown_of (hcht _ _)))
        have S2:Aside (SWK enc k w0 blk off d (grow (wr.drewN nq) osq)):=S1.out.grown nq osq
        clear laht lbht hcht S1
        generalize grow (wr.drewN nq) osq=w2 at S2 ⊢
        clear nq osq
        go_wp2
        go_roundg (hi - ((lo+hi) / 2+1))
        case measure=>omega
        case rel=>
          have I2:Hid ((((lo+hi) / 2+1)=m∨ltOf cf d[((lo+hi) / 2+1) - 1]! d[a]! =true)∧(hi=b∨ltOf cf d[hi]! d[a]! =false)):=(⟨.inr hlv,I.out.2⟩:_∧_)
          exact ⟨(lo+hi) / 2+1,hi,by rw [show ((lo:Int)+(hi:Int)) / 2+1=(((lo+hi) / 2+1:Nat):Int) by omega],rfl,by omega,by omega,by omega,Nat.le_refl _,S2,I2⟩
      | false =>
        have eahf:(((lo:Int)+(hi:Int)) / 2).toNat=(lo+hi) / 2:=by omega
        have pahf:(0:Int)≤((lo:Int)+(hi:Int)) / 2:=by omega
        have bahf:((lo:Int)+(hi:Int)) / 2<(d.size:Int):=by omega
        have rahf:IntKind.i64.wrap (((lo:Int)+(hi:Int)) / 2)=((lo:Int)+(hi:Int)) / 2:=by rw [IntKind.wrap_i64];omega
        have echf:((a:Int)).toNat=a:=by omega
        have pchf:(0:Int)≤(a:Int):=by omega
        have bchf:(a:Int)<(d.size:Int):=by omega
        have rchf:IntKind.i64.wrap ((a:Int))=(a:Int):=by rw [IntKind.wrap_i64];omega
        obtain ⟨xhf,hxhf⟩: ∃x,x=d[(lo+hi) / 2]!:=⟨_,rfl⟩
        obtain ⟨yhf,hyhf⟩: ∃x,x=d[a]!:=⟨_,rfl⟩
        have lahf:=S1.out.ld R (by omega) P ((lo+hi) / 2) (by omega)
        have lbhf:=S1.out.ld R (by omega) P (a) (by omega)
        rw [←hxhf] at lahf
        rw [←hyhf] at lbhf
        have hchf:=S1.out.cmp HC.out (by omega) xhf yhf
        have hvhf: ¬cf xhf yhf<0:=by rw [hxhf,hyhf];exact of_decide_eq_false hlv
        have hdhf:decide (cf xhf yhf<0)=false:=decide_eq_false hvhf
        clear hxhf hyhf
        go_wp2_with fail
        go_quiet_grown (first|(go_at_fn g;refine Calls.grown_of (hchf _ _)))
        have S2:Aside (SWK enc k w0 blk off d (grow (wr.drewN nq) osq)):=S1.out.grown nq osq
        clear lahf lbhf hchf S1
        generalize grow (wr.drewN nq) osq=w2 at S2 ⊢
        clear nq osq
        go_wp2
        go_roundg ((lo+hi) / 2 - lo)
        case measure=>omega
        case rel=>
          have I2:Hid ((lo=m∨ltOf cf d[lo - 1]! d[a]! =true)∧(((lo+hi) / 2)=b∨ltOf cf d[((lo+hi) / 2)]! d[a]! =false)):=(⟨I.out.1, .inr hlv⟩:_∧_)
          exact ⟨lo,(lo+hi) / 2,rfl,by rw [show ((lo:Int)+(hi:Int)) / 2=(((lo+hi) / 2:Nat):Int) by omega],by omega,by omega,by omega,Nat.le_refl _,S2,I2⟩
    · obtain rfl : hi = lo := by omega
      have hltz: ¬(hi:Int)<(hi:Int):=by omega
      go_wp2
      go_loopg [13] (b - a) (fun kx s13 wr2=> ∃(q:Nat) (dk:Array α),s13= .int .i64 q∧a≤q∧q+1≤hi∧hi - q≤kx∧dk.size=d.size∧Aside (SWK enc k w0 blk off dk wr2)∧Hid (RotAt a (a+1) (q+1) d dk∧PermIn a b d dk))
      case atStart=>exact ⟨a,d,rfl,Nat.le_refl _,by omega,by omega,rfl,S1,(⟨rot_right _ _ _,permIn_refl _ _ _⟩:_∧_)⟩
      case round=>
        clear S1
        obtain ⟨q,dk,rfl,haq,hqh,hg2,hds,S1,HH⟩:=hrel
        by_cases hq:q+1<hi
        · have hqz : (q : Int) < (hi : Int) - 1 := by omega
          go_wp2_with fail
          have eaq:((q:Int)).toNat=q:=by omega
          have paq:(0:Int)≤(q:Int):=by omega
          have baq:(q:Int)<(d.size:Int):=by omega
          have raq:IntKind.i64.wrap ((q:Int))=(q:Int):=by rw [IntKind.wrap_i64];omega
          have ecq:((q:Int)+1).toNat=q+1:=by omega
          have pcq:(0:Int)≤(q:Int)+1:=by omega
          have bcq:(q:Int)+1<(d.size:Int):=by omega
          have rcq:IntKind.i64.wrap ((q:Int)+1)=(q:Int)+1:=by rw [IntKind.wrap_i64];omega
          have S2:Aside (SWK enc k w0 blk off (swp dk (q) (q+1)) ((wr.drew.setCells blk (off+(q)*k) (enc dk[q+1]!)).setCells blk (off+(q+1)*k) (enc dk[q]!))):=S1.out.swapped R (q) (q+1) (by omega) (by omega)
          have laq:=S1.out.ld1 R (by omega) P (q) (by omega)
          have lbq:=S1.out.ld1 R (by omega) P (q+1) (by omega)
          have saq:=S1.out.st1 R (by omega) P (q) (by omega) dk[q+1]!
          have sbq:=S1.out.st2 R (by omega) P (q) (q+1) (by omega) (by omega) dk[q+1]! dk[q]!
          have naq:(enc dk[q]!).length=k:=R.hk _
          have nbq:(enc dk[q+1]!).length=k:=R.hk _
          generalize enc dk[q]! =cIq at S2 laq sbq naq
          generalize enc dk[q+1]! =cJq at S2 lbq saq sbq nbq
          clear S1
          go_wp2_with fail
          go_big_region_o
          clear laq lbq saq sbq
          generalize (wr.drew.setCells blk (off+(q)*k) cJq).setCells blk (off+(q+1)*k) cIq=w3 at S2 ⊢
          go_wp2
          go_roundg (hi - (q+1))
          case measure=>omega
          case rel=>
            have HH2:Hid (RotAt a (a+1) (q+1+1) d (swp dk q (q+1))∧PermIn a b d (swp dk q (q+1))):=(⟨rot_up HH.out.1 haq (by omega),permIn_trans _ _ _ _ _ HH.out.2 (swp_permIn dk a b q (q+1) (by omega) (by omega) (by omega) (by omega) (by omega))⟩:_∧_)
            exact ⟨q+1,swp dk q (q+1),by go_num,by omega,by omega,Nat.le_refl _,by rw [size_swp];exact hds,S2,HH2⟩
        · have hqz : ¬ (q : Int) < (hi : Int) - 1 := by omega
          go_wp2
          (try simp only [Exit.inBlock,Exit.then]);refine bodyPost_ret (results_none rfl _ _ _) rfl ?_
          refine ⟨rfl,dk,S1.out, ?_,HH.out.2⟩
          have hr:=HH.out.1
          rw [show q+1=hi by omega] at hr
          have sB:=SS.out.2
          rw [C1.out] at sB
          have i1:=I.out.1
          rw [C1.out] at i1
          exact ins_left hO hr (by omega) hhb sB (left_lt hO sB hhb i1) (left_ge hO sB (by omega) I.out.2)
set_option maxHeartbeats 8000000 in
set_option maxRecDepth 1000000 in
theorem symMerge_last {P:Program} {α:Type} [Inhabited α] (FS:P.funcs[176]?=some Try.f176) (FR:P.funcs[169]?=some Try.f169) (F:P.funcs[148]?=some Try.f148) {k:Nat} (L:SortT P k) (enc:α→List Value) (cf:α→α→Int) (g:Nat) (cb:Array Value) (blk off cap:Nat) (d0:Array α) (w0:World)
    (eg: ∀args w,(callFunc g args).run P w= .ok (.enter g args) w) (hcmp:CmpLays P g cb enc k cf blk off d0.size w0) (R:RowK enc k w0 blk off d0) (hO:SWO (ltOf cf)) (hsz:d0.size<2305843009213693952)
    (a m b:Nat) (d:Array α) (w:World) (c1: ¬m=a+1) (c2:b=m+1) (hs:d0.size=d.size) (S:SWK enc k w0 blk off d w) (ham:a<m) (hmb:m<b) (hb:b≤d.size) (sA:SortedIn (ltOf cf) a m d) (sB:SortedIn (ltOf cf) m b d):SymR P enc cf k g cb blk off cap w0 a m b d w:=by
  unfold SymR
  have mixed:=L.mixed;have t0:=L.t0;have a0:=L.a0;have z0:=L.z0;have v0:=L.v0;have t3:=L.t3;have a3:=L.a3;have z3:=L.z3;have v3:=L.v3;have t4:=L.t4;have a4:=L.a4;have z4:=L.z4;have v4:=L.v4;have t5:=L.t5;have a5:=L.a5;have z5:=L.z5;have v5:=L.v5;have t22:=L.t22;have a22:=L.a22;have z22:=L.z22;have v22:=L.v22;have t25:=L.t25;have a25:=L.a25;have z25:=L.z25;have v25:=L.v25;have aE:=L.aE;have zE:=L.zE
  have u0:=run_underlying L.t0;have u3:=run_underlying L.t3;have u4:=run_underlying L.t4;have u5:=run_underlying L.t5;have u22:=run_underlying L.t22
  have eR: ∀args w,(callFunc 169 args).run P w= .ok (.enter 169 args) w:=enters_of FR (by kernel_rfl) rfl
  have eY: ∀args w,(callFunc 148 args).run P w= .ok (.enter 148 args) w:=enters_of F (by kernel_rfl) rfl
  have HC:Aside _:=hcmp
  have S0:Aside (SWK enc k w0 blk off d w):=S
  have SS:Hid (SortedIn (ltOf cf) a m d∧SortedIn (ltOf cf) m b d):=(⟨sA,sB⟩:_∧_)
  clear hcmp S sA sB
  have c1z:((m:Int) - (a:Int)==1)=false:=by simp;omega
  have c2z:(b:Int) - (m:Int)=1:=by omega
  have C2:Hid (b=m+1):=c2
  clear c2
  go_enter F,Try.ntmps148
  go_wp2
  go_loopg [14,15] (b - a) (fun kx s10 s11 wr=> ∃lo hi:Nat,s10= .int .i64 lo∧s11= .int .i64 hi∧a≤lo∧lo≤hi∧hi≤m∧hi - lo≤kx∧Aside (SWK enc k w0 blk off d wr)∧Hid ((lo=a∨ltOf cf d[m]! d[lo - 1]! =false)∧(hi=m∨ltOf cf d[m]! d[hi]! =true)))
  case atStart=>exact ⟨a,m,rfl,rfl,Nat.le_refl _,by omega,Nat.le_refl _,by omega,S0,(⟨.inl rfl, .inl rfl⟩:_∧_)⟩
  case round=>
    clear S0
    obtain ⟨lo,hi,rfl,rfl,hml,hlh,hhb,hg,S1,I⟩:=hrel
    by_cases hlt:lo<hi
    · have hltz : (lo : Int) < (hi : Int) := by omega
      cases hlv:ltOf cf d[m]! d[(lo+hi) / 2]! with
      | true =>
        have eaht:((m:Int)).toNat=m:=by omega
        have paht:(0:Int)≤(m:Int):=by omega
        have baht:(m:Int)<(d.size:Int):=by omega
        have raht:IntKind.i64.wrap ((m:Int))=(m:Int):=by rw [IntKind.wrap_i64];omega
        have echt:(((lo:Int)+(hi:Int)) / 2).toNat=(lo+hi) / 2:=by omega
        have pcht:(0:Int)≤((lo:Int)+(hi:Int)) / 2:=by omega
        have bcht:((lo:Int)+(hi:Int)) / 2<(d.size:Int):=by omega
        have rcht:IntKind.i64.wrap (((lo:Int)+(hi:Int)) / 2)=((lo:Int)+(hi:Int)) / 2:=by rw [IntKind.wrap_i64];omega
        obtain ⟨xht,hxht⟩: ∃x,x=d[m]!:=⟨_,rfl⟩
        obtain ⟨yht,hyht⟩: ∃x,x=d[(lo+hi) / 2]!:=⟨_,rfl⟩
        have laht:=S1.out.ld R (by omega) P (m) (by omega)
        have lbht:=S1.out.ld R (by omega) P ((lo+hi) / 2) (by omega)
        rw [←hxht] at laht
        rw [←hyht] at lbht
        have hcht:=S1.out.cmp HC.out (by omega) xht yht
        have hvht:cf xht yht<0:=by rw [hxht,hyht];exact of_decide_eq_true hlv
        have hdht:decide (cf xht yht<0)=true:=decide_eq_true hvht
        clear hxht hyht
        go_wp2_with fail
        go_quiet_grown (first|(go_at_fn g;refine Calls.grown_of (hcht _ _)))
        have S2:Aside (SWK enc k w0 blk off d (grow (wr.drewN nq) osq)):=S1.out.grown nq osq
        clear laht lbht hcht S1
        generalize grow (wr.drewN nq) osq=w2 at S2 ⊢
        clear nq osq
        go_wp2
        go_roundg ((lo+hi) / 2 - lo)
        case measure=>omega
        case rel=>
          have I2:Hid ((lo=a∨ltOf cf d[m]! d[lo - 1]! =false)∧(((lo+hi) / 2)=m∨ltOf cf d[m]! d[((lo+hi) / 2)]! =true)):=(⟨I.out.1, .inr hlv⟩:_∧_)
          exact ⟨lo,(lo+hi) / 2,rfl,by rw [show ((lo:Int)+(hi:Int)) / 2=(((lo+hi) / 2:Nat):Int) by omega],by omega,by omega,by omega,Nat.le_refl _,S2,I2⟩
      | false =>
        have eahf:((m:Int)).toNat=m:=by omega
        have pahf:(0:Int)≤(m:Int):=by omega
        have bahf:(m:Int)<(d.size:Int):=by omega
        have rahf:IntKind.i64.wrap ((m:Int))=(m:Int):=by rw [IntKind.wrap_i64];omega
        have echf:(((lo:Int)+(hi:Int)) / 2).toNat=(lo+hi) / 2:=by omega
        have pchf:(0:Int)≤((lo:Int)+(hi:Int)) / 2:=by omega
        have bchf:((lo:Int)+(hi:Int)) / 2<(d.size:Int):=by omega
        have rchf:IntKind.i64.wrap (((lo:Int)+(hi:Int)) / 2)=((lo:Int)+(hi:Int)) / 2:=by rw [IntKind.wrap_i64];omega
        obtain ⟨xhf,hxhf⟩: ∃x,x=d[m]!:=⟨_,rfl⟩
        obtain ⟨yhf,hyhf⟩: ∃x,x=d[(lo+hi) / 2]!:=⟨_,rfl⟩
        have lahf:=S1.out.ld R (by omega) P (m) (by omega)
        have lbhf:=S1.out.ld R (by omega) P ((lo+hi) / 2) (by omega)
        rw [←hxhf] at lahf
        rw [←hyhf] at lbhf
        have hchf:=S1.out.cmp HC.out (by omega) xhf yhf
        have hvhf: ¬cf xhf yhf<0:=by rw [hxhf,hyhf];exact of_decide_eq_false hlv
        have hdhf:decide (cf xhf yhf<0)=false:=decide_eq_false hvhf
        clear hxhf hyhf
        go_wp2_with fail
        go_quiet_grown (first|(go_at_fn g;refine Calls.grown_of (hchf _ _)))
        have S2:Aside (SWK enc k w0 blk off d (grow (wr.drewN nq) osq)):=S1.out.grown nq osq
        clear lahf lbhf hchf S1
        generalize grow (wr.drewN nq) osq=w2 at S2 ⊢
        clear nq osq
        go_wp2
        go_roundg (hi - ((lo+hi) / 2+1))
        case measure=>omega
        case rel=>
          have I2:Hid ((((lo+hi) / 2+1)=a∨ltOf cf d[m]! d[((lo+hi) / 2+1) - 1]! =false)∧(hi=m∨ltOf cf d[m]! d[hi]! =true)):=(⟨.inr hlv,I.out.2⟩:_∧_)
          exact ⟨(lo+hi) / 2+1,hi,by rw [show ((lo:Int)+(hi:Int)) / 2+1=(((lo+hi) / 2+1:Nat):Int) by omega],rfl,by omega,by omega,by omega,Nat.le_refl _,S2,I2⟩
    · obtain rfl : hi = lo := by omega
      have hltz: ¬(hi:Int)<(hi:Int):=by omega
      go_wp2
      go_loopg [17] (b - a) (fun kx s17 wr2=> ∃(q:Nat) (dk:Array α),s17= .int .i64 q∧hi≤q∧q≤m∧q - hi≤kx∧dk.size=d.size∧Aside (SWK enc k w0 blk off dk wr2)∧Hid (RotAt q m (m+1) d dk∧PermIn a b d dk))
      case atStart=>exact ⟨m,d,rfl,by omega,Nat.le_refl _,by omega,rfl,S1,(⟨rot_left _ _ _,permIn_refl _ _ _⟩:_∧_)⟩
      case round=>
        clear S1
        obtain ⟨q,dk,rfl,haq,hqh,hg2,hds,S1,HH⟩:=hrel
        by_cases hq:hi<q
        · obtain ⟨q, rfl⟩ : ∃ p, q = p + 1 := ⟨q - 1, by omega⟩
          have hqz:(hi:Int)<(q:Int)+1:=by omega
          go_wp2_with fail
          have eaq:((q:Int)+1).toNat=q+1:=by omega
          have paq:(0:Int)≤(q:Int)+1:=by omega
          have baq:(q:Int)+1<(d.size:Int):=by omega
          have raq:IntKind.i64.wrap ((q:Int)+1)=(q:Int)+1:=by rw [IntKind.wrap_i64];omega
          have ecq:((q:Int)).toNat=q:=by omega
          have pcq:(0:Int)≤(q:Int):=by omega
          have bcq:(q:Int)<(d.size:Int):=by omega
          have rcq:IntKind.i64.wrap ((q:Int))=(q:Int):=by rw [IntKind.wrap_i64];omega
          have S2:Aside (SWK enc k w0 blk off (swp dk (q+1) (q)) ((wr.drew.setCells blk (off+(q+1)*k) (enc dk[q]!)).setCells blk (off+(q)*k) (enc dk[q+1]!))):=S1.out.swapped R (q+1) (q) (by omega) (by omega)
          have laq:=S1.out.ld1 R (by omega) P (q+1) (by omega)
          have lbq:=S1.out.ld1 R (by omega) P (q) (by omega)
          have saq:=S1.out.st1 R (by omega) P (q+1) (by omega) dk[q]!
          have sbq:=S1.out.st2 R (by omega) P (q+1) (q) (by omega) (by omega) dk[q]! dk[q+1]!
          have naq:(enc dk[q+1]!).length=k:=R.hk _
          have nbq:(enc dk[q]!).length=k:=R.hk _
          generalize enc dk[q+1]! =cIq at S2 laq sbq naq
          generalize enc dk[q]! =cJq at S2 lbq saq sbq nbq
          clear S1
          go_wp2_with fail
          go_big_region_o
          clear laq lbq saq sbq
          generalize (wr.drew.setCells blk (off+(q+1)*k) cJq).setCells blk (off+(q)*k) cIq=w3 at S2 ⊢
          go_wp2
          go_roundg (q - hi)
          case measure=>omega
          case rel=>
            have HH2:Hid (RotAt q m (m+1) d (swp dk (q+1) q)∧PermIn a b d (swp dk (q+1) q)):=(⟨rot_down HH.out.1 (by omega) (by omega),permIn_trans _ _ _ _ _ HH.out.2 (swp_permIn dk a b (q+1) q (by omega) (by omega) (by omega) (by omega) (by omega))⟩:_∧_)
            exact ⟨q,swp dk (q+1) q,by go_num,by omega,by omega,Nat.le_refl _,by rw [size_swp];exact hds,S2,HH2⟩
        · have hqz : ¬ (hi : Int) < (q : Int) := by omega
          go_wp2
          (try simp only [Exit.inBlock,Exit.then]);refine bodyPost_ret (results_none rfl _ _ _) rfl ?_
          refine ⟨rfl,dk,S1.out, ?_,HH.out.2⟩
          have hr:=HH.out.1
          rw [show q=hi by omega] at hr
          rw [C2.out]
          exact ins_right_ hO hr hml hhb SS.out.1 (right_le hO SS.out.1 hhb I.out.1) (right_gt hO SS.out.1 hml I.out.2)
set_option maxHeartbeats 8000000 in
set_option maxRecDepth 1000000 in
theorem symMerge_big {P:Program} {α:Type} [Inhabited α] (FS:P.funcs[176]?=some Try.f176) (FR:P.funcs[169]?=some Try.f169) (F:P.funcs[148]?=some Try.f148) {k:Nat} (L:SortT P k) (enc:α→List Value) (cf:α→α→Int) (g:Nat) (cb:Array Value) (blk off cap:Nat) (d0:Array α) (w0:World)
    (eg: ∀args w,(callFunc g args).run P w= .ok (.enter g args) w) (hcmp:CmpLays P g cb enc k cf blk off d0.size w0) (R:RowK enc k w0 blk off d0) (hO:SWO (ltOf cf)) (hsz:d0.size<2305843009213693952) (N:Nat) (ih:SymN P enc cf k g cb blk off cap d0 w0 N)
    (a m b:Nat) (d:Array α) (w:World) (hN:b - a≤N+1) (c1: ¬m=a+1) (c2: ¬b=m+1) (hs:d0.size=d.size) (S:SWK enc k w0 blk off d w) (ham:a<m) (hmb:m<b) (hb:b≤d.size) (sA:SortedIn (ltOf cf) a m d) (sB:SortedIn (ltOf cf) m b d):SymR P enc cf k g cb blk off cap w0 a m b d w:=by
  unfold SymR
  have mixed:=L.mixed;have t0:=L.t0;have a0:=L.a0;have z0:=L.z0;have v0:=L.v0;have t3:=L.t3;have a3:=L.a3;have z3:=L.z3;have v3:=L.v3;have t4:=L.t4;have a4:=L.a4;have z4:=L.z4;have v4:=L.v4;have t5:=L.t5;have a5:=L.a5;have z5:=L.z5;have v5:=L.v5;have t22:=L.t22;have a22:=L.a22;have z22:=L.z22;have v22:=L.v22;have t25:=L.t25;have a25:=L.a25;have z25:=L.z25;have v25:=L.v25;have aE:=L.aE;have zE:=L.zE
  have u0:=run_underlying L.t0;have u3:=run_underlying L.t3;have u4:=run_underlying L.t4;have u5:=run_underlying L.t5;have u22:=run_underlying L.t22
  have eR: ∀args w,(callFunc 169 args).run P w= .ok (.enter 169 args) w:=enters_of FR (by kernel_rfl) rfl
  have eY: ∀args w,(callFunc 148 args).run P w= .ok (.enter 148 args) w:=enters_of F (by kernel_rfl) rfl
  have HC:Aside _:=hcmp
  have S0:Aside (SWK enc k w0 blk off d w):=S
  have SS:Hid (SortedIn (ltOf cf) a m d∧SortedIn (ltOf cf) m b d):=(⟨sA,sB⟩:_∧_)
  have IH:Hid _:=ih
  clear hcmp S sA sB ih
  have c1z:((m:Int) - (a:Int)==1)=false:=by simp;omega
  have c2z:((b:Int) - (m:Int)==1)=false:=by simp;omega
  obtain ⟨mid,hmid⟩: ∃mid:Nat,2*mid≤a+b∧a+b≤2*mid+1:=⟨(a+b) / 2,by omega⟩
  have hmz:((a:Int)+(b:Int)) / 2=(mid:Int):=by omega
  obtain ⟨pz,hpz⟩: ∃p:Nat,p+1≤mid+m∧mid+m≤p+1:=⟨mid+m - 1,by omega⟩
  have hpq:(mid:Int)+(m:Int) - 1=(pz:Int):=by omega
  go_enter F,Try.ntmps148
  have HMZ:Hid _:=hmz
  clear hmz
  go_upto_region 25 with (fail)
  rw [HMZ.out]
  go_upto_if 140 with (fail)
  go_cut [20,21] (fun v20 v21 wc=> ∃lo hi:Nat,v20= .int .i64 lo∧v21= .int .i64 hi∧a≤lo∧lo≤hi∧hi≤m∧hi≤mid∧mid+m - lo≤b∧m≤mid+m - hi∧Aside (SWK enc k w0 blk off d wc)∧Hid (((lo=a∨mid+m - lo=b)∨ltOf cf d[mid+m - lo]! d[lo - 1]! =false)∧((hi=m∨mid+m - hi=m)∨ltOf cf d[mid+m - hi - 1]! d[hi]! =true)))
  case first=>
    as_aux_lemma=>
      by_cases hgt:mid<m
      · have hgz : (mid : Int) < (m : Int) := by omega
        go_wp2
        go_meet
        case rel=>exact ⟨mid+m - b,mid,by rw [show ((mid+m - b:Nat):Int)=(mid:Int)+(m:Int) - (b:Int) by omega],rfl,by omega,by omega,by omega,Nat.le_refl _,by omega,by omega,S0,(⟨.inl (.inr (by omega)), .inl (.inr (by omega))⟩:_∧_)⟩
      · have hgz : ¬ (mid : Int) < (m : Int) := by omega
        go_wp2
        go_meet
        case rel=>exact ⟨a,m,rfl,rfl,by omega,by omega,Nat.le_refl _,by omega,by omega,by omega,S0,(⟨.inl (.inl rfl), .inl (.inl rfl)⟩:_∧_)⟩
  case rest=>
    clear S0
    obtain ⟨lo0,hi0,rfl,rfl,b1,b2,b3,b4,b5,b6,S0,I0⟩:=hcut
    go_wp2
    go_loopg [20,21] (b - a) (fun kx s20 s21 wr=> ∃lo hi:Nat,s20= .int .i64 lo∧s21= .int .i64 hi∧lo0≤lo∧lo≤hi∧hi≤hi0∧hi - lo≤kx∧Aside (SWK enc k w0 blk off d wr)∧Hid (((lo=a∨mid+m - lo=b)∨ltOf cf d[mid+m - lo]! d[lo - 1]! =false)∧((hi=m∨mid+m - hi=m)∨ltOf cf d[mid+m - hi - 1]! d[hi]! =true)))
    case atStart=>exact ⟨lo0,hi0,rfl,rfl,Nat.le_refl _,by omega,Nat.le_refl _,by omega,S0,I0⟩
    case round=>
      clear S0 I0
      obtain ⟨lo,hi,rfl,rfl,hml,hlh,hhb,hg,S1,I⟩:=hrel
      by_cases hlt:lo<hi
      · have hltz : (lo : Int) < (hi : Int) := by omega
        obtain ⟨xq,hxq⟩: ∃x:Nat,x+(lo+hi) / 2≤pz∧pz≤x+(lo+hi) / 2:=⟨pz - (lo+hi) / 2,by omega⟩
        have hxd:(pz:Int) - ((lo:Int)+(hi:Int)) / 2=(xq:Int):=by omega
        cases hlv:ltOf cf d[xq]! d[(lo+hi) / 2]! with
        | true =>
          have eaht:((xq:Int)).toNat=xq:=by omega
          have paht:(0:Int)≤(xq:Int):=by omega
          have baht:(xq:Int)<(d.size:Int):=by omega
          have raht:IntKind.i64.wrap ((xq:Int))=(xq:Int):=by rw [IntKind.wrap_i64];omega
          have echt:(((lo:Int)+(hi:Int)) / 2).toNat=(lo+hi) / 2:=by omega
          have pcht:(0:Int)≤((lo:Int)+(hi:Int)) / 2:=by omega
          have bcht:((lo:Int)+(hi:Int)) / 2<(d.size:Int):=by omega
          have rcht:IntKind.i64.wrap (((lo:Int)+(hi:Int)) / 2)=((lo:Int)+(hi:Int)) / 2:=by rw [IntKind.wrap_i64];omega
          obtain ⟨xht,hxht⟩: ∃x,x=d[xq]!:=⟨_,rfl⟩
          obtain ⟨yht,hyht⟩: ∃x,x=d[(lo+hi) / 2]!:=⟨_,rfl⟩
          have laht:=S1.out.ld R (by omega) P (xq) (by omega)
          have lbht:=S1.out.ld R (by omega) P ((lo+hi) / 2) (by omega)
          rw [←hxht] at laht
          rw [←hyht] at lbht
          have hcht:=S1.out.cmp HC.out (by omega) xht yht
          have hvht:cf xht yht<0:=by rw [hxht,hyht];exact of_decide_eq_true hlv
          have hdht:decide (cf xht yht<0)=true:=decide_eq_true hvht
          clear hxht hyht
          go_wp2_with fail
          go_quiet_grown (first|(go_at_fn g;refine Calls.grown_of (hcht _ _)))
          have S2:Aside (SWK enc k w0 blk off d (grow (wr.drewN nq) osq)):=S1.out.grown nq osq
          clear laht lbht hcht S1
          generalize grow (wr.drewN nq) osq=w2 at S2 ⊢
          clear nq osq
          go_wp2
          go_roundg ((lo+hi) / 2 - lo)
          case measure=>omega
          case rel=>
            have I2:Hid (((lo=a∨mid+m - lo=b)∨ltOf cf d[mid+m - lo]! d[lo - 1]! =false)∧((((lo+hi) / 2)=m∨mid+m - ((lo+hi) / 2)=m)∨ltOf cf d[mid+m - ((lo+hi) / 2) - 1]! d[((lo+hi) / 2)]! =true)):=(⟨I.out.1, .inr (by rw [show mid+m - ((lo+hi) / 2) - 1=xq by omega];exact hlv)⟩:_∧_)
            exact ⟨lo,(lo+hi) / 2,rfl,by rw [show ((lo:Int)+(hi:Int)) / 2=(((lo+hi) / 2:Nat):Int) by omega],by omega,by omega,by omega,Nat.le_refl _,S2,I2⟩
        | false =>
          have eahf:((xq:Int)).toNat=xq:=by omega
          have pahf:(0:Int)≤(xq:Int):=by omega
          have bahf:(xq:Int)<(d.size:Int):=by omega
          have rahf:IntKind.i64.wrap ((xq:Int))=(xq:Int):=by rw [IntKind.wrap_i64];omega
          have echf:(((lo:Int)+(hi:Int)) / 2).toNat=(lo+hi) / 2:=by omega
          have pchf:(0:Int)≤((lo:Int)+(hi:Int)) / 2:=by omega
          have bchf:((lo:Int)+(hi:Int)) / 2<(d.size:Int):=by omega
          have rchf:IntKind.i64.wrap (((lo:Int)+(hi:Int)) / 2)=((lo:Int)+(hi:Int)) / 2:=by rw [IntKind.wrap_i64];omega
          obtain ⟨xhf,hxhf⟩: ∃x,x=d[xq]!:=⟨_,rfl⟩
          obtain ⟨yhf,hyhf⟩: ∃x,x=d[(lo+hi) / 2]!:=⟨_,rfl⟩
          have lahf:=S1.out.ld R (by omega) P (xq) (by omega)
          have lbhf:=S1.out.ld R (by omega) P ((lo+hi) / 2) (by omega)
          rw [←hxhf] at lahf
          rw [←hyhf] at lbhf
          have hchf:=S1.out.cmp HC.out (by omega) xhf yhf
          have hvhf: ¬cf xhf yhf<0:=by rw [hxhf,hyhf];exact of_decide_eq_false hlv
          have hdhf:decide (cf xhf yhf<0)=false:=decide_eq_false hvhf
          clear hxhf hyhf
          go_wp2_with fail
          go_quiet_grown (first|(go_at_fn g;refine Calls.grown_of (hchf _ _)))
          have S2:Aside (SWK enc k w0 blk off d (grow (wr.drewN nq) osq)):=S1.out.grown nq osq
          clear lahf lbhf hchf S1
          generalize grow (wr.drewN nq) osq=w2 at S2 ⊢
          clear nq osq
          go_wp2
          go_roundg (hi - ((lo+hi) / 2+1))
          case measure=>omega
          case rel=>
            have I2:Hid (((((lo+hi) / 2+1)=a∨mid+m - ((lo+hi) / 2+1)=b)∨ltOf cf d[mid+m - ((lo+hi) / 2+1)]! d[((lo+hi) / 2+1) - 1]! =false)∧((hi=m∨mid+m - hi=m)∨ltOf cf d[mid+m - hi - 1]! d[hi]! =true)):=(⟨.inr (by rw [show mid+m - ((lo+hi) / 2+1)=xq by omega];exact hlv),I.out.2⟩:_∧_)
            exact ⟨(lo+hi) / 2+1,hi,by rw [show ((lo:Int)+(hi:Int)) / 2+1=(((lo+hi) / 2+1:Nat):Int) by omega],rfl,by omega,by omega,by omega,Nat.le_refl _,S2,I2⟩
      · obtain rfl : hi = lo := by omega
        have hltz: ¬(hi:Int)<(hi:Int):=by omega
        obtain ⟨e,he⟩: ∃e:Nat,e+hi≤mid+m∧mid+m≤e+hi:=⟨mid+m - hi,by omega⟩
        have hez:(mid:Int)+(m:Int) - (hi:Int)=(e:Int):=by omega
        have IE:Hid (((hi=a∨e=b)∨ltOf cf d[e]! d[hi - 1]! =false)∧((hi=m∨e=m)∨ltOf cf d[e - 1]! d[hi]! =true)):=by rw [show e=mid+m - hi by omega];exact I
        clear I
        go_upto_region 39 with (fail)
        go_cut [185] (fun v wc=> ∃q:Bool,v= .bool q∧Hid (q=true↔(hi<m∧m<e))∧Aside (SWK enc k w0 blk off d wc))
        case first=>
          as_aux_lemma=>
            by_cases hr1:hi<m
            · have hr1z : (hi : Int) < (m : Int) := by omega
              by_cases hr2:m<e
              · have hr2z : (m : Int) < (e : Int) := by omega
                go_wp2
                go_meet
                case rel=>exact ⟨true,rfl,(show Hid _ from (⟨fun _=>⟨hr1,hr2⟩,fun _=>rfl⟩:true=true↔(hi<m∧m<e))),S1⟩
              · have hr2z : ¬ (m : Int) < (e : Int) := by omega
                go_wp2
                go_meet
                case rel=>exact ⟨false,rfl,(show Hid _ from (⟨fun h=>absurd h (by simp),fun h=>absurd h.2 hr2⟩:false=true↔(hi<m∧m<e))),S1⟩
            · have hr1z : ¬ (hi : Int) < (m : Int) := by omega
              go_wp2
              go_meet
              case rel=>exact ⟨false,rfl,(show Hid _ from (⟨fun h=>absurd h (by simp),fun h=>absurd h.1 hr1⟩:false=true↔(hi<m∧m<e))),S1⟩
        case rest=>
        clear S1
        obtain ⟨q,rfl,Q,S1⟩:=hcut
        go_upto_if 185 with (fail)
        go_cut [] (fun wc=> ∃d1:Array α,Aside (SWK enc k w0 blk off d1 wc)∧Hid (Turned_ (ltOf cf) a hi mid e b d d1))
        case first=>
          as_aux_lemma=>
            cases q with
            | true =>
              have hr:=Q.out.1 rfl
              have hcall:=rotate_w FS FR L enc g cb blk off cap hi m e d0 d w0 wc R hs S1.out hr.1 hr.2 (by omega) (by omega)
              clear S1 hr
              go_wp2_with (go_at_fn 169;refine hcall.mono ?_;rintro e_ w1 ⟨rfl,d1,S2,X,Y⟩;have S3:Aside (SWK enc k w0 blk off d1 w1):=S2;have T:Hid (Turned_ (ltOf cf) a hi mid e b d d1):=turned_of hO (permIn_mono d d1 hi e a b (by omega) (by omega) (by omega) Y) X (by omega) (by omega) (by omega) (by omega) (by omega) SS.out.1 SS.out.2 IE.out.1 IE.out.2;clear X Y S2)
              go_meet
              case rel=>exact ⟨d1,S3,T⟩
            | false =>
              have hr: ¬(hi<m∧m<e):=fun h=>by have:=Q.out.2 h;simp at this
              have T:Hid (Turned_ (ltOf cf) a hi mid e b d d):=turned_of hO (permIn_refl _ _ _) (by
                by_cases q:hi=m
                · rw [q];exact rot_left _ _ _
                · rw [show e=m by omega];exact rot_right _ _ _) (by omega) (by omega) (by omega) (by omega) (by omega) SS.out.1 SS.out.2 IE.out.1 IE.out.2
              clear hr
              go_wp2
              go_meet
              case rel=>exact ⟨d,S1,T⟩
        case rest=>
          clear S1 IE
          obtain ⟨d1,S1,T⟩:=hcut
          clear Q
          have hd1:d1.size=d.size:=T.out.perm.1
          go_upto_region 41 with (fail)
          go_cut [199] (fun v wc=> ∃q:Bool,v= .bool q∧Hid (q=true↔(a<hi∧hi<mid))∧Aside (SWK enc k w0 blk off d1 wc))
          case first=>
            as_aux_lemma=>
              by_cases hr1:a<hi
              · have hr1z : (a : Int) < (hi : Int) := by omega
                by_cases hr2:hi<mid
                · have hr2z : (hi : Int) < (mid : Int) := by omega
                  go_wp2
                  go_meet
                  case rel=>exact ⟨true,rfl,(show Hid _ from (⟨fun _=>⟨hr1,hr2⟩,fun _=>rfl⟩:true=true↔(a<hi∧hi<mid))),S1⟩
                · have hr2z : ¬ (hi : Int) < (mid : Int) := by omega
                  go_wp2
                  go_meet
                  case rel=>exact ⟨false,rfl,(show Hid _ from (⟨fun h=>absurd h (by simp),fun h=>absurd h.2 hr2⟩:false=true↔(a<hi∧hi<mid))),S1⟩
              · have hr1z : ¬ (a : Int) < (hi : Int) := by omega
                go_wp2
                go_meet
                case rel=>exact ⟨false,rfl,(show Hid _ from (⟨fun h=>absurd h (by simp),fun h=>absurd h.1 hr1⟩:false=true↔(a<hi∧hi<mid))),S1⟩
          case rest=>
          clear S1
          obtain ⟨q,rfl,Q,S1⟩:=hcut
          go_upto_if 199 with (fail)
          go_cut [] (fun wc=> ∃d2:Array α,Aside (SWK enc k w0 blk off d2 wc)∧Hid (SortedIn (ltOf cf) a mid d2∧PermIn a mid d1 d2))
          case first=>
            as_aux_lemma=>
              cases q with
              | true =>
                have hr:=Q.out.1 rfl
                have hcall:SymR P enc cf k g cb blk off cap w0 a hi mid d1 wc:=IH.out a hi mid d1 wc (by omega) (by omega) S1.out hr.1 hr.2 (by omega) T.out.s1 T.out.s2
                unfold SymR at hcall
                rw [hd1] at hcall
                clear S1 hr
                go_wp2_with (go_at_fn 148;refine hcall.mono ?_;rintro e_ w1 ⟨rfl,d2,S2,X,Y⟩;have S3:Aside (SWK enc k w0 blk off d2 w1):=S2;have T2:Hid (SortedIn (ltOf cf) a mid d2∧PermIn a mid d1 d2):=(⟨X,Y⟩:_∧_);clear X Y S2)
                go_meet
                case rel=>exact ⟨d2,S3,T2⟩
              | false =>
                have hr: ¬(a<hi∧hi<mid):=fun h=>by have:=Q.out.2 h;simp at this
                have T2:Hid (SortedIn (ltOf cf) a mid d1∧PermIn a mid d1 d1):=(⟨sorted_whole T.out.s1 T.out.s2 hr,permIn_refl _ _ _⟩:_∧_)
                clear hr
                go_wp2
                go_meet
                case rel=>exact ⟨d1,S1,T2⟩
          case rest=>
            clear S1 Q
            obtain ⟨d2,S1,T2⟩:=hcut
            have hd2:d2.size=d.size:=by rw [T2.out.2.1];exact hd1
            have s3:SortedIn (ltOf cf) mid e d2:=sorted_congr T.out.s3 (fun q h1 _=>T2.out.2.2.1 q (.inr h1))
            have s4:SortedIn (ltOf cf) e b d2:=sorted_congr T.out.s4 (fun q h1 _=>T2.out.2.2.1 q (.inr (by omega)))
            have S34:Hid (SortedIn (ltOf cf) mid e d2∧SortedIn (ltOf cf) e b d2):=(⟨s3,s4⟩:_∧_)
            clear s3 s4
            have fin: ∀d3,SortedIn (ltOf cf) mid b d3→PermIn mid b d2 d3→SortedIn (ltOf cf) a b d3∧PermIn a b d d3:=fun d3 q1 q2=>by
              obtain ⟨z1,z2⟩:=sym_join (by omega) (by omega) (by omega) T.out.x T2.out.2 T2.out.1 q2 q1
              exact ⟨z1,permIn_trans _ _ _ _ _ T.out.perm z2⟩
            have FIN:Hid _:=fin
            clear fin
            by_cases hr:mid<e∧e<b
            · have hr1 : (mid : Int) < (e : Int) := by omega
              have hr2:(e:Int)<(b:Int):=by omega
              have hcall:SymR P enc cf k g cb blk off cap w0 mid e b d2 wc:=IH.out mid e b d2 wc (by omega) (by omega) S1.out hr.1 hr.2 (by omega) S34.out.1 S34.out.2
              unfold SymR at hcall
              rw [hd2] at hcall
              clear S1
              go_wp2_with (go_at_fn 148;refine hcall.mono ?_;rintro e_ w1 ⟨rfl,d3,S2,X,Y⟩;have S3:Aside (SWK enc k w0 blk off d3 w1):=S2;have T3:Hid (SortedIn (ltOf cf) mid b d3∧PermIn mid b d2 d3):=(⟨X,Y⟩:_∧_);clear X Y S2)
              go_end0
              exact ⟨rfl,d3,S3.out,FIN.out d3 T3.out.1 T3.out.2⟩
            · have T3 : Hid (SortedIn (ltOf cf) mid b d2) := sorted_whole S34.out.1 S34.out.2 hr
              by_cases hr1:mid<e
              · have hr1z : (mid : Int) < (e : Int) := by omega
                have hr2z: ¬(e:Int)<(b:Int):=by omega
                go_wp2
                go_end0
                exact ⟨rfl,d2,S1.out,FIN.out d2 T3.out (permIn_refl _ _ _)⟩
              · have hr1z : ¬ (mid : Int) < (e : Int) := by omega
                go_wp2
                go_end0
                exact ⟨rfl,d2,S1.out,FIN.out d2 T3.out (permIn_refl _ _ _)⟩
theorem symMerge_w {P:Program} {α:Type} [Inhabited α] (FS:P.funcs[176]?=some Try.f176) (FR:P.funcs[169]?=some Try.f169) (F:P.funcs[148]?=some Try.f148) {k:Nat} (L:SortT P k) (enc:α→List Value) (cf:α→α→Int) (g:Nat) (cb:Array Value) (blk off cap:Nat) (d0:Array α) (w0:World)
    (eg: ∀args w,(callFunc g args).run P w= .ok (.enter g args) w) (hcmp:CmpLays P g cb enc k cf blk off d0.size w0) (R:RowK enc k w0 blk off d0) (hO:SWO (ltOf cf)) (hsz:d0.size<2305843009213693952): ∀N,SymN P enc cf k g cb blk off cap d0 w0 N
  |0=>fun a m b d w h1 _ _ h2 h3=>by omega
  | N + 1 => fun a m b d w hN hs S ham hmb hb sA sB => by
    by_cases c1:m=a+1
    · exact symMerge_one FS FR F L enc cf g cb blk off cap d0 w0 eg hcmp R hO hsz a m b d w c1 hs S ham hmb hb sA sB
    · by_cases c2 : b = m + 1
      · exact symMerge_last FS FR F L enc cf g cb blk off cap d0 w0 eg hcmp R hO hsz a m b d w c1 c2 hs S ham hmb hb sA sB
      · exact symMerge_big FS FR F L enc cf g cb blk off cap d0 w0 eg hcmp R hO hsz N (symMerge_w FS FR F L enc cf g cb blk off cap d0 w0 eg hcmp R hO hsz N) a m b d w hN c1 c2 hs S ham hmb hb sA sB
def InsN {α:Type} [Inhabited α] (P:Program) (enc:α→List Value) (cf:α→α→Int) (k g:Nat) (cb:Array Value) (blk off cap:Nat) (d0:Array α) (w0:World):Prop:=
  ∀ (a b : Nat) (d : Array α) (w : World), d0.size = d.size → SWK enc k w0 blk off d w → a ≤ b → b ≤ d.size →
    Calls P 147 #[.slice (some ⟨blk,off,none⟩) d.size cap, .int .i64 a, .int .i64 b, .func (.func g) #[] cb] w fun e w'=>e= .returned (.tuple #[])∧ ∃d',SWK enc k w0 blk off d' w'∧SortedIn (ltOf cf) a b d'∧PermIn a b d d'
set_option maxHeartbeats 8000000 in
set_option maxRecDepth 1000000 in
theorem stable_w {P:Program} {α:Type} [Inhabited α] (FI:P.funcs[147]?=some Try.f147) (FY:P.funcs[148]?=some Try.f148) (F:P.funcs[116]?=some Try.f116) {k:Nat} (L:SortT P k) (enc:α→List Value) (cf:α→α→Int) (g:Nat) (cb:Array Value) (blk off cap:Nat) (d0:Array α) (w0:World)
    (HI:InsN P enc cf k g cb blk off cap d0 w0) (HY: ∀N,SymN P enc cf k g cb blk off cap d0 w0 N) (hsz:d0.size<576460752303423488) (d:Array α) (w:World) (hs:d0.size=d.size) (S:SWK enc k w0 blk off d w):
    Calls P 116 #[.slice (some ⟨blk,off,none⟩) d.size cap, .int .i64 d.size, .func (.func g) #[] cb] w fun e w'=>e= .returned (.tuple #[])∧ ∃d',SWK enc k w0 blk off d' w'∧SortedIn (ltOf cf) 0 d.size d'∧PermIn 0 d.size d d':=by
  have mixed:=L.mixed;have t0:=L.t0;have a0:=L.a0;have z0:=L.z0;have v0:=L.v0;have t3:=L.t3;have a3:=L.a3;have z3:=L.z3;have v3:=L.v3;have t4:=L.t4;have a4:=L.a4;have z4:=L.z4;have v4:=L.v4;have t5:=L.t5;have a5:=L.a5;have z5:=L.z5;have v5:=L.v5;have t22:=L.t22;have a22:=L.a22;have z22:=L.z22;have v22:=L.v22;have t25:=L.t25;have a25:=L.a25;have z25:=L.z25;have v25:=L.v25;have aE:=L.aE;have zE:=L.zE
  have u0:=run_underlying L.t0;have u3:=run_underlying L.t3;have u4:=run_underlying L.t4;have u5:=run_underlying L.t5;have u22:=run_underlying L.t22
  have eI: ∀args w,(callFunc 147 args).run P w= .ok (.enter 147 args) w:=enters_of FI (by kernel_rfl) rfl
  have eY: ∀args w,(callFunc 148 args).run P w= .ok (.enter 148 args) w:=enters_of FY (by kernel_rfl) rfl
  have S0:Aside (SWK enc k w0 blk off d w):=S
  have HII:Hid _:=HI
  have HYY:Hid _:=HY
  clear S HI HY
  obtain ⟨n,hn⟩: ∃n,n=d.size:=⟨_,rfl⟩
  rw [←hn]
  have HN:Hid (n=d.size):=hn
  have hn1:n≤d.size∧d.size≤n:=by omega
  clear hn
  go_enter F,Try.ntmps116
  go_wp2
  go_loopg [7,8] (n+1) (fun kx s7 s8 wr=> ∃(t a:Nat) (dk:Array α),s7= .int .i64 a∧s8= .int .i64 ((a:Int)+20)∧a≤n∧n - a≤kx∧dk.size=n∧Aside (SWK enc k w0 blk off dk wr)∧Hid (a=t*20∧Upto (ltOf cf) 20 n t dk∧PermIn 0 n d dk))
  case atStart=>exact ⟨0,0,d,rfl,rfl,by omega,by omega,HN.out.symm,S0,(⟨by omega,fun c hc=>by omega,permIn_refl _ _ _⟩:_∧_∧_)⟩
  case round=>
    clear S0
    obtain ⟨t,a,dk,rfl,rfl,han,hkx,hds,S1,HH⟩:=hrel
    have HD:Hid (dk.size=n):=hds
    have hd1:dk.size≤n∧n≤dk.size:=by omega
    clear hds
    by_cases hlt:a+20≤n
    · have hltz : (a : Int) + 20 ≤ (n : Int) := by omega
      have hcall:=HII.out a (a+20) dk wr (by omega) S1.out (by omega) (by omega)
      rw [show ((a+20:Nat):Int)=(a:Int)+20 by omega,HD.out] at hcall
      clear S1
      go_wp2_with (go_at_fn 147;refine hcall.mono ?_;rintro e_ w1 ⟨rfl,d1,S2,X,Y⟩;have S3:Aside (SWK enc k w0 blk off d1 w1):=S2;have T:Hid (SortedIn (ltOf cf) a (a+20) d1∧PermIn a (a+20) dk d1):=(⟨X,Y⟩:_∧_);clear X Y S2)
      go_roundg (n - (a+20))
      case measure=>omega
      case rel=>
        have HH2:Hid (a+20=(t+1)*20∧Upto (ltOf cf) 20 n (t+1) d1∧PermIn 0 n d d1):=by
          obtain ⟨q1,q2,q3⟩:=HH.out
          have e1:t*20=a:=q1.symm
          have e2:min (t*20+20) n=a+20:=by omega
          show _∧_∧_
          exact ⟨by omega,upto_step q2 (by rw [e1,←e1,e2,e1];exact T.out.2) (by rw [e2,e1];exact T.out.1),part_perm q3 T.out.2 hlt (by omega)⟩
        exact ⟨t+1,a+20,d1,by rw [show ((a+20:Nat):Int)=(a:Int)+20 by omega],by rw [show ((a+20:Nat):Int)=(a:Int)+20 by omega],hlt,Nat.le_refl _,by rw [T.out.2.1];exact HD.out,S3,HH2⟩
    · have hltz : ¬ (a : Int) + 20 ≤ (n : Int) := by omega
      have hcall:=HII.out a n dk wr (by omega) S1.out (by omega) (by omega)
      rw [HD.out] at hcall
      clear S1
      go_wp2_with (go_at_fn 147;refine hcall.mono ?_;rintro e_ w1 ⟨rfl,d1,S2,X,Y⟩;have S3:Aside (SWK enc k w0 blk off d1 w1):=S2;have T:Hid (SortedIn (ltOf cf) a n d1∧PermIn a n dk d1):=(⟨X,Y⟩:_∧_);clear X Y S2)
      have HB:Hid (Blocks (ltOf cf) 20 n d1∧PermIn 0 n d d1∧d1.size=n):=by
        obtain ⟨q1,q2,q3⟩:=HH.out
        have e1:t*20=a:=q1.symm
        have e2:min (t*20+20) n=n:=by omega
        show _∧_∧_
        exact ⟨upto_all (upto_step q2 (by rw [e2,e1];exact T.out.2) (by rw [e2,e1];exact T.out.1)) (by omega),part_perm q3 T.out.2 (Nat.le_refl _) (by omega),by rw [T.out.2.1];exact HD.out⟩
      clear HH T HD hd1 hlt hltz
      go_loopg [6] (n+1) (fun kx s6 wr2=> ∃(bs:Nat) (dk:Array α),s6= .int .i64 bs∧20≤bs∧bs≤2*n+20∧n - bs≤kx∧Aside (SWK enc k w0 blk off dk wr2)∧Hid (Blocks (ltOf cf) bs n dk∧PermIn 0 n d dk∧dk.size=n))
      case atStart=>exact ⟨20,d1,rfl,by omega,by omega,by omega,S3,HB⟩
      case round=>
        clear S3 HB
        obtain ⟨bs,dk,rfl,hbs,hbs2,hkx2,S1,HB⟩:=hrel
        by_cases hlt:bs<n
        · have hltz : (bs : Int) < (n : Int) := by omega
          go_wp2
          go_loopg [7,8] (n+1) (fun kx s7 s8 wr3=> ∃(t a:Nat) (dk:Array α),s7= .int .i64 a∧s8= .int .i64 ((a:Int)+2*(bs:Int))∧a≤n∧n - a≤kx∧Aside (SWK enc k w0 blk off dk wr3)∧Hid (a=t*(2*bs)∧Mixed (ltOf cf) bs n t dk∧PermIn 0 n d dk∧dk.size=n))
          case atStart=>exact ⟨0,0,dk,rfl,by simp,by omega,by omega,S1,(⟨by omega,mixed_zero HB.out.1,HB.out.2.1,HB.out.2.2⟩:_∧_∧_∧_)⟩
          case round=>
            clear S1 HB
            obtain ⟨t,a,dk,rfl,rfl,han,hkx3,S1,HH⟩:=hrel
            have hd1:dk.size≤n∧n≤dk.size:=by have:=HH.out.2.2.2;omega
            by_cases hle:a+2*bs≤n
            · have hlez : (a : Int) + 2 * (bs : Int) ≤ (n : Int) := by omega
              have hm:SortedIn (ltOf cf) a (a+bs) dk∧SortedIn (ltOf cf) (a+bs) (a+2*bs) dk:=by
                obtain ⟨q1,q2,_,_⟩:=HH.out
                have q:=mixed_at q2
                rw [←q1,Nat.min_eq_left (by omega),Nat.min_eq_left (by omega)] at q
                exact q
              have hcall:SymR P enc cf k g cb blk off cap w0 a (a+bs) (a+2*bs) dk wr:=HYY.out _ a (a+bs) (a+2*bs) dk wr (Nat.le_refl _) (by omega) S1.out (by omega) (by omega) (by omega) hm.1 hm.2
              unfold SymR at hcall
              rw [show ((a+bs:Nat):Int)=(a:Int)+(bs:Int) by omega,show ((a+2*bs:Nat):Int)=(a:Int)+2*(bs:Int) by omega,HH.out.2.2.2] at hcall
              clear S1 hm
              go_wp2_with (go_at_fn 148;refine hcall.mono ?_;rintro e_ w1 ⟨rfl,d1,S2,X,Y⟩;have S3:Aside (SWK enc k w0 blk off d1 w1):=S2;have T:Hid (SortedIn (ltOf cf) a (a+2*bs) d1∧PermIn a (a+2*bs) dk d1):=(⟨X,Y⟩:_∧_);clear X Y S2)
              go_roundg (n - (a+2*bs))
              case measure=>omega
              case rel=>
                have HH2:Hid (a+2*bs=(t+1)*(2*bs)∧Mixed (ltOf cf) bs n (t+1) d1∧PermIn 0 n d d1∧d1.size=n):=by
                  obtain ⟨q1,q2,q3,q4⟩:=HH.out
                  have e2:min (t*(2*bs)+2*bs) n=t*(2*bs)+2*bs:=by omega
                  have T1:=T.out
                  rw [q1] at T1
                  show _∧_∧_∧_
                  exact ⟨by rw [Nat.add_mul,Nat.one_mul];omega,mixed_step q2 (by rw [e2];exact T1.2) (by rw [e2];exact T1.1),part_perm q3 T.out.2 hle (by omega),by rw [T.out.2.1];exact q4⟩
                exact ⟨t+1,a+2*bs,d1,by rw [show ((a+2*bs:Nat):Int)=(a:Int)+2*(bs:Int) by omega],by rw [show ((a+2*bs:Nat):Int)=(a:Int)+2*(bs:Int) by omega],hle,Nat.le_refl _,S3,HH2⟩
            · have hlez : ¬ (a : Int) + 2 * (bs : Int) ≤ (n : Int) := by omega
              by_cases hlm:a+bs<n
              · have hlmz : (a : Int) + (bs : Int) < (n : Int) := by omega
                have hm:SortedIn (ltOf cf) a (a+bs) dk∧SortedIn (ltOf cf) (a+bs) n dk:=by
                  obtain ⟨q1,q2,_,_⟩:=HH.out
                  have q:=mixed_at q2
                  rw [←q1,Nat.min_eq_left (by omega),Nat.min_eq_right (by omega)] at q
                  exact q
                have hcall:SymR P enc cf k g cb blk off cap w0 a (a+bs) n dk wr:=HYY.out _ a (a+bs) n dk wr (Nat.le_refl _) (by omega) S1.out (by omega) (by omega) (by omega) hm.1 hm.2
                unfold SymR at hcall
                rw [show ((a+bs:Nat):Int)=(a:Int)+(bs:Int) by omega,HH.out.2.2.2] at hcall
                clear S1 hm
                go_wp2_with (go_at_fn 148;refine hcall.mono ?_;rintro e_ w1 ⟨rfl,d1,S2,X,Y⟩;have S3:Aside (SWK enc k w0 blk off d1 w1):=S2;have T:Hid (SortedIn (ltOf cf) a n d1∧PermIn a n dk d1):=(⟨X,Y⟩:_∧_);clear X Y S2)
                go_roundg (n - 2*bs)
                case measure=>omega
                case rel=>
                  have HB2:Hid (Blocks (ltOf cf) (2*bs) n d1∧PermIn 0 n d d1∧d1.size=n):=by
                    obtain ⟨q1,q2,q3,q4⟩:=HH.out
                    have e2:min (t*(2*bs)+2*bs) n=n:=by omega
                    have T1:=T.out
                    rw [q1] at T1
                    show _∧_∧_
                    exact ⟨mixed_last (mixed_step q2 (by rw [e2];exact T1.2) (by rw [e2];exact T1.1)) (by omega),part_perm q3 T.out.2 (Nat.le_refl _) (by omega),by rw [T.out.2.1];exact q4⟩
                  exact ⟨2*bs,d1,by rw [show ((2*bs:Nat):Int)=(bs:Int)*2 by omega],by omega,by omega,Nat.le_refl _,S3,HB2⟩
              · have hlmz : ¬ (a : Int) + (bs : Int) < (n : Int) := by omega
                go_wp2
                go_roundg (n - 2*bs)
                case measure=>omega
                case rel=>
                  have HB2:Hid (Blocks (ltOf cf) (2*bs) n dk∧PermIn 0 n d dk∧dk.size=n):=(⟨mixed_end HH.out.2.1 (by have:=HH.out.1;omega),HH.out.2.2.1,HH.out.2.2.2⟩:_∧_∧_)
                  exact ⟨2*bs,dk,by rw [show ((2*bs:Nat):Int)=(bs:Int)*2 by omega],by omega,by omega,Nat.le_refl _,S1,HB2⟩
        · have hltz : ¬ (bs : Int) < (n : Int) := by omega
          go_wp2
          go_end0
          exact ⟨rfl,dk,S1.out,blocks_all HB.out.1 (by omega),HB.out.2.1⟩
end Go.Proofs.Ytahidkjncljkaaa.Print

namespace Go.Proofs.Ytahidkjncljkaaa.Print
open Go.RowKit Go.Proofs.YtahidkjncljkaaaW.PrintWords Go.Proofs.YtahidkjncljkaaaW.PrintLast Go.Proofs.YtahidkjncljkaaaW.PrintMore
def cmpI (x y:Int):Int:=if x<y then -1 else if y<x then 1 else 0
def cmpS (x y:ByteArray):Int:=if lt x y=true then -1 else if lt y x=true then 1 else 0
set_option maxRecDepth 100000 in
theorem isNaNI_calls (x:Int) (w:World):Calls Try.prog 117 #[.int .i64 x] w fun e w'=>e= .returned (.bool false)∧w'=w:=by
 go_enter Try.func117,Try.ntmps117
 go_wp2
 go_ret
 exact ⟨by simp,rfl⟩
set_option maxRecDepth 100000 in
theorem isNaNS_calls (x:ByteArray) (w:World):Calls Try.prog 118 #[.string x] w fun e w'=>e= .returned (.bool false)∧w'=w:=by
 go_enter Try.func118,Try.ntmps118
 go_wp2
 go_ret
 exact ⟨by simp,rfl⟩
set_option maxHeartbeats 1000000 in
set_option maxRecDepth 100000 in
theorem cmpI_calls (x y:Int) (w:World):Calls Try.prog 81 #[.int .i64 x, .int .i64 y] w fun e w'=>e= .returned (.int .i64 (cmpI x y))∧w'=w:=by
  by_cases h1:x<y
  · go_enter Try.func81, Try.ntmps81
    go_wp2_with (go_at_call 117;refine (isNaNI_calls _ _).mono ?_;rintro e w1 ⟨rfl,rfl⟩)
    go_ret
    exact ⟨by unfold cmpI;rw [if_pos h1];rfl,rfl⟩
  · by_cases h2 : y < x
    · go_enter Try.func81, Try.ntmps81
      go_wp2_with (go_at_call 117;refine (isNaNI_calls _ _).mono ?_;rintro e w1 ⟨rfl,rfl⟩)
      go_ret
      exact ⟨by unfold cmpI;rw [if_neg (by omega),if_pos (by omega)];rfl,rfl⟩
    · go_enter Try.func81, Try.ntmps81
      go_wp2_with (go_at_call 117;refine (isNaNI_calls _ _).mono ?_;rintro e w1 ⟨rfl,rfl⟩)
      go_ret
      exact ⟨by unfold cmpI;rw [if_neg (by omega),if_neg (by omega)];rfl,rfl⟩
set_option maxHeartbeats 1000000 in
set_option maxRecDepth 100000 in
theorem cmpS_calls (x y:ByteArray) (w:World):Calls Try.prog 82 #[.string x, .string y] w fun e w'=>e= .returned (.int .i64 (cmpS x y))∧w'=w:=by
  by_cases h1:lt x y=true
  · have g1 : Op.bytesLess x.toList y.toList = true := h1
    go_enter Try.func82,Try.ntmps82
    go_wp2_with (go_at_call 118;refine (isNaNS_calls _ _).mono ?_;rintro e w1 ⟨rfl,rfl⟩)
    go_ret
    exact ⟨by unfold cmpS;rw [if_pos h1];rfl,rfl⟩
  · have g1 : Op.bytesLess x.toList y.toList = false := Bool.eq_false_iff.mpr h1
    by_cases h2:lt y x=true
    · have g3 : (x.toList == y.toList) = false := beq_eq_false_iff_ne.mpr (fun q => by rw [nm_inj.1 q, lt_irrefl] at h2; cases h2)
      go_enter Try.func82,Try.ntmps82
      go_wp2_with (go_at_call 118;refine (isNaNS_calls _ _).mono ?_;rintro e w1 ⟨rfl,rfl⟩)
      go_ret
      exact ⟨by unfold cmpS;rw [if_neg h1,if_pos h2];rfl,rfl⟩
    · have g3 : (x.toList == y.toList) = true := beq_iff_eq.mpr (nm_inj.2 (Classical.byContradiction fun q => h2 (lt_total (Bool.eq_false_iff.mpr h1) q)))
      go_enter Try.func82,Try.ntmps82
      go_wp2_with (go_at_call 118;refine (isNaNS_calls _ _).mono ?_;rintro e w1 ⟨rfl,rfl⟩)
      go_ret
      exact ⟨by unfold cmpS;rw [if_neg h1,if_neg h2];rfl,rfl⟩
def orI (x y:Int):Int:=if x=0 then y else x
set_option maxHeartbeats 1000000 in
set_option maxRecDepth 100000 in
theorem cmpOr_calls_ (b:Nat) (c:Nat) (x y:Int) (w:World) (h0:w.cell? ⟨b,0,none⟩=some (.int .i64 x)) (h1:w.cell? ⟨b,1,none⟩=some (.int .i64 y)):Calls Try.prog 80 #[.slice (some ⟨b,0,none⟩) 2 c] w fun e w'=>e= .returned (.int .i64 (if x=0 then y else x))∧w'=w:=by
  by_cases e1:x=0
  · subst e1
    by_cases e2:y=0
    · subst e2
      go_enter Try.func80,Try.ntmps80
      go_wp2
      refine wp_loop_rounds 3 ?_
      rw [rounds_succ]
      go_wp2
      rw [rounds_succ]
      go_wp2
      rw [rounds_succ]
      go_wp2
      go_ret
      exact ⟨rfl,rfl⟩
    · have f2 : (y != 0) = true := bne_iff_ne.mpr e2
      go_enter Try.func80,Try.ntmps80
      go_wp2
      refine wp_loop_rounds 2 ?_
      rw [rounds_succ]
      go_wp2
      rw [rounds_succ]
      go_wp2
      go_ret
      exact ⟨rfl,rfl⟩
  · have f1 : (x != 0) = true := bne_iff_ne.mpr e1
    go_enter Try.func80,Try.ntmps80
    go_wp2
    refine wp_loop_rounds 1 ?_
    rw [rounds_succ]
    go_wp2
    go_ret
    exact ⟨rfl,rfl⟩
theorem cmpOr_calls (b:Nat) (c:Nat) (x y:Int) (w:World) (h0:w.cell? ⟨b,0,none⟩=some (.int .i64 x)) (h1:w.cell? ⟨b,1,none⟩=some (.int .i64 y)):Calls Try.prog 80 #[.slice (some ⟨b,0,none⟩) 2 c] w fun e w'=>e= .returned (.int .i64 (orI x y))∧w'=w:=cmpOr_calls_ b c x y w h0 h1
def cmpW (f:ByteArray→Int) (x y:ByteArray):Int:=orI (cmpI (f x) (f y)) (cmpS x y)
set_option maxHeartbeats 8000000 in
set_option maxRecDepth 100000 in
theorem wantTop1_calls (w:World) (gd b mb n:Nat) (v0:Value) (f:ByteArray→Int) (hgd:w.heap[gd]?=some (.cells #[.pointer (some ⟨b,0,none⟩)] 108 (0,0))) (hb:w.heap[b]?=some (.cells #[v0, .map (some mb)] 113 (0,0))) (hm:MapAt w mb n f) (x y:S39) (hx:x.f0.size≤maxLen) (hy:y.f0.size≤maxLen):
    Calls Try.prog 79 #[.agg #[.string x.f0, .string x.f1, .int .i64 x.f2.f0, .int .i64 x.f2.f1, .int .i64 x.f2.f2], .agg #[.string y.f0, .string y.f1, .int .i64 y.f2.f0, .int .i64 y.f2.f1, .int .i64 y.f2.f2], .pointer (some ⟨gd,0,none⟩)] w fun e w'=>e= .returned (.int .i64 (cmpW f x.f0 y.f0))∧ ∃q os',w'=Sort.grow (w.drewN q) os':=by
  have hu113:=Try.underlying113
  have hu39:=Try.underlying39
  have HX:=Aside0.mk hx
  have HY:=Aside0.mk hy
  obtain ⟨wB,hwB⟩: ∃wB,wB=((w.alloc (.cells #[.string x.f0, .string x.f1, .int .i64 x.f2.f0, .int .i64 x.f2.f1, .int .i64 x.f2.f2] 39)).alloc (.cells #[.string y.f0, .string y.f1, .int .i64 y.f2.f0, .int .i64 y.f2.f1, .int .i64 y.f2.f2] 39)).drew:=⟨_,rfl⟩
  have hs1:(w.alloc (.cells #[.string x.f0, .string x.f1, .int .i64 x.f2.f0, .int .i64 x.f2.f1, .int .i64 x.f2.f2] 39)).heap.size=w.heap.size+1:=by simp
  have HGD:=Aside0.mk (show wB.heap[gd]?=some _ by rw [hwB];exact blk_drew (blk_alloc (blk_alloc hgd _) _))
  have HBK:=Aside0.mk (show wB.heap[b]?=some _ by rw [hwB];exact blk_drew (blk_alloc (blk_alloc hb _) _))
  have HM:=Aside0.mk (show MapAt wB mb n f by rw [hwB];exact ((hm.below (below_alloc (Below.refl _ _) _)).below (below_alloc (Below.refl _ _) _)).kept rfl)
  have H3:=Aside0.mk (show wB.heap[w.heap.size]?=some (.cells #[.string x.f0, .string x.f1, .int .i64 x.f2.f0, .int .i64 x.f2.f1, .int .i64 x.f2.f2] 39 (0,0)) by rw [hwB];exact blk_drew (blk_alloc (blk_new _ _) _))
  have H4:=Aside0.mk (show wB.heap[w.heap.size+1]?=some (.cells #[.string y.f0, .string y.f1, .int .i64 y.f2.f0, .int .i64 y.f2.f1, .int .i64 y.f2.f2] 39 (0,0)) by rw [hwB,←hs1];exact blk_drew (blk_new _ _))
  have HW:=Aside0.mk (show wB=Sort.grow (w.drewN 1) #[.cells #[.string x.f0, .string x.f1, .int .i64 x.f2.f0, .int .i64 x.f2.f1, .int .i64 x.f2.f2] 39, .cells #[.string y.f0, .string y.f1, .int .i64 y.f2.f0, .int .i64 y.f2.f1, .int .i64 y.f2.f2] 39] by rw [hwB,Sort.alloc_eq_grow,Sort.alloc_eq_grow,Sort.grow_grow];rfl)
  have HWB:=Aside0.mk hwB
  clear hgd hb hm hx hy hwB hs1
  obtain ⟨g3,hg3⟩: ∃g3,g3=w.heap.size:=⟨_,rfl⟩
  obtain ⟨g4,hg4⟩: ∃g4,g4=w.heap.size+1:=⟨_,rfl⟩
  rw [←hg3] at H3
  rw [←hg4] at H4
  go_enter Try.func79,Try.ntmps79
  go_upto_region 1 with (fail)
  rw [←hg4,←hg3]
  clear hg3 hg4
  refine start_ (n:=23) (S:=fun w'=>w'.cell? ⟨gd,0,none⟩=some (.pointer (some ⟨b,0,none⟩))∧w'.cell? ⟨b,1,none⟩=some (.map (some mb))∧w'.cell? ⟨g3,0,none⟩=some (.string x.f0)∧w'.cell? ⟨g4,0,none⟩=some (.string y.f0)∧(Instr.lookup 111 (.map (some mb)) (.string x.f0) false).run Try.prog w'= .ok (.int .i64 (f x.f0)) w'∧(Instr.lookup 111 (.map (some mb)) (.string y.f0) false).run Try.prog w'= .ok (.int .i64 (f y.f0)) w') (ds:=[]) #[false,false,false,false,false,false,false,false,false,false,false,false,false,false,false,false,false,false,false,false,false,false,false] (by kernel_rfl) rfl rfl (by rw [←HWB.out];exact ⟨(blk_cell HGD.out 0).trans rfl,(blk_cell HBK.out 1).trans rfl,(blk_cell H3.out 0).trans rfl,(blk_cell H4.out 0).trans rfl,HM.out.look Try.underlying111 HX.out _ rfl,HM.out.look Try.underlying111 HY.out _ rfl⟩) (fun hHeld=> ?_)
  rw [←HWB.out] at hHeld ⊢
  generalize wB=w9 at HGD HBK HM H3 H4 HW hHeld ⊢
  clear HWB
  refine take_ (i:=0) (N:=some 6) (v:= ?_) (a':= ?_) #[true,false,false,false,false,false,false,false,false,false,false,false,false,false,false,false,false,false,false,false,false,false,false] rfl rfl (by kernel_rfl) (fun _ _ _ h=>h) (Or.inl ⟨by rfl, ?_⟩) hHeld ?_ ?_;rotate_left;(rintro w' ⟨s0,s1,s2,s3,s4,s5⟩;go_simp;with_reducible rfl);rotate_left;(simp only [Act.put,List.setIfInBounds_toArray,List.set_cons_zero,List.set_cons_succ,i64_w,i32_w];rfl)
  refine pure_ (i:=1) (N:=some 7) (v:= ?_) (a':= ?_) #[true,true,false,false,false,false,false,false,false,false,false,false,false,false,false,false,false,false,false,false,false,false,false] rfl rfl (by kernel_rfl) (fun _ _ _ h=>h) (Or.inl ⟨by rfl, ?_⟩) ?_ ?_;rotate_left;(intro w';go_simp;with_reducible rfl);rotate_left;(simp only [Act.put,List.setIfInBounds_toArray,List.set_cons_zero,List.set_cons_succ,i64_w,i32_w];rfl)
  refine pure_ (i:=2) (N:=some 8) (v:= ?_) (a':= ?_) #[true,true,true,false,false,false,false,false,false,false,false,false,false,false,false,false,false,false,false,false,false,false,false] rfl rfl (by kernel_rfl) (fun _ _ _ h=>h) (Or.inl ⟨by rfl, ?_⟩) ?_ ?_;rotate_left;(intro w';go_simp;with_reducible rfl);rotate_left;(simp only [Act.put,List.setIfInBounds_toArray,List.set_cons_zero,List.set_cons_succ,i64_w,i32_w];rfl)
  refine take_ (i:=3) (N:=some 9) (v:= ?_) (a':= ?_) #[true,true,true,true,false,false,false,false,false,false,false,false,false,false,false,false,false,false,false,false,false,false,false] rfl rfl (by kernel_rfl) (fun _ _ _ h=>h) (Or.inl ⟨by rfl, ?_⟩) hHeld ?_ ?_;rotate_left;(rintro w' ⟨s0,s1,s2,s3,s4,s5⟩;go_simp;with_reducible rfl);rotate_left;(simp only [Act.put,List.setIfInBounds_toArray,List.set_cons_zero,List.set_cons_succ,i64_w,i32_w];rfl)
  refine pure_ (i:=4) (N:=some 10) (v:= ?_) (a':= ?_) #[true,true,true,true,true,false,false,false,false,false,false,false,false,false,false,false,false,false,false,false,false,false,false] rfl rfl (by kernel_rfl) (fun _ _ _ h=>h) (Or.inl ⟨by rfl, ?_⟩) ?_ ?_;rotate_left;(intro w';go_simp;with_reducible rfl);rotate_left;(simp only [Act.put,List.setIfInBounds_toArray,List.set_cons_zero,List.set_cons_succ,i64_w,i32_w];rfl)
  refine take_ (i:=5) (N:=some 11) (v:= ?_) (a':= ?_) #[true,true,true,true,true,true,false,false,false,false,false,false,false,false,false,false,false,false,false,false,false,false,false] rfl rfl (by kernel_rfl) (fun _ _ _ h=>h) (Or.inl ⟨by rfl, ?_⟩) hHeld ?_ ?_;rotate_left;(rintro w' ⟨s0,s1,s2,s3,s4,s5⟩;go_simp;with_reducible rfl);rotate_left;(simp only [Act.put,List.setIfInBounds_toArray,List.set_cons_zero,List.set_cons_succ,i64_w,i32_w];rfl)
  refine take_ (i:=6) (N:=some 12) (v:= ?_) (a':= ?_) #[true,true,true,true,true,true,true,false,false,false,false,false,false,false,false,false,false,false,false,false,false,false,false] rfl rfl (by kernel_rfl) (fun _ _ _ h=>h) (Or.inl ⟨by rfl, ?_⟩) hHeld ?_ ?_;rotate_left;(rintro w' ⟨s0,s1,s2,s3,s4,s5⟩;go_simp;with_reducible rfl);rotate_left;(simp only [Act.put,List.setIfInBounds_toArray,List.set_cons_zero,List.set_cons_succ,i64_w,i32_w];rfl)
  refine take_ (i:=7) (N:=some 13) (v:= ?_) (a':= ?_) #[true,true,true,true,true,true,true,true,false,false,false,false,false,false,false,false,false,false,false,false,false,false,false] rfl rfl (by kernel_rfl) (fun _ _ _ h=>h) (Or.inl ⟨by rfl, ?_⟩) hHeld ?_ ?_;rotate_left;(rintro w' ⟨s0,s1,s2,s3,s4,s5⟩;go_simp;with_reducible rfl);rotate_left;(simp only [Act.put,List.setIfInBounds_toArray,List.set_cons_zero,List.set_cons_succ,i64_w,i32_w];rfl)
  refine pure_ (i:=8) (N:=some 14) (v:= ?_) (a':= ?_) #[true,true,true,true,true,true,true,true,true,false,false,false,false,false,false,false,false,false,false,false,false,false,false] rfl rfl (by kernel_rfl) (fun _ _ _ h=>h) (Or.inl ⟨by rfl, ?_⟩) ?_ ?_;rotate_left;(intro w';go_simp;with_reducible rfl);rotate_left;(simp only [Act.put,List.setIfInBounds_toArray,List.set_cons_zero,List.set_cons_succ,i64_w,i32_w];rfl)
  refine pure_ (i:=9) (N:=some 15) (v:= ?_) (a':= ?_) #[true,true,true,true,true,true,true,true,true,true,false,false,false,false,false,false,false,false,false,false,false,false,false] rfl rfl (by kernel_rfl) (fun _ _ _ h=>h) (Or.inl ⟨by rfl, ?_⟩) ?_ ?_;rotate_left;(intro w';go_simp;with_reducible rfl);rotate_left;(simp only [Act.put,List.setIfInBounds_toArray,List.set_cons_zero,List.set_cons_succ,i64_w,i32_w];rfl)
  refine take_ (i:=10) (N:=some 16) (v:= ?_) (a':= ?_) #[true,true,true,true,true,true,true,true,true,true,true,false,false,false,false,false,false,false,false,false,false,false,false] rfl rfl (by kernel_rfl) (fun _ _ _ h=>h) (Or.inl ⟨by rfl, ?_⟩) hHeld ?_ ?_;rotate_left;(rintro w' ⟨s0,s1,s2,s3,s4,s5⟩;go_simp;with_reducible rfl);rotate_left;(simp only [Act.put,List.setIfInBounds_toArray,List.set_cons_zero,List.set_cons_succ,i64_w,i32_w];rfl)
  refine pure_ (i:=11) (N:=some 17) (v:= ?_) (a':= ?_) #[true,true,true,true,true,true,true,true,true,true,true,true,false,false,false,false,false,false,false,false,false,false,false] rfl rfl (by kernel_rfl) (fun _ _ _ h=>h) (Or.inl ⟨by rfl, ?_⟩) ?_ ?_;rotate_left;(intro w';go_simp;with_reducible rfl);rotate_left;(simp only [Act.put,List.setIfInBounds_toArray,List.set_cons_zero,List.set_cons_succ,i64_w,i32_w];rfl)
  refine take_ (i:=12) (N:=some 18) (v:= ?_) (a':= ?_) #[true,true,true,true,true,true,true,true,true,true,true,true,true,false,false,false,false,false,false,false,false,false,false] rfl rfl (by kernel_rfl) (fun _ _ _ h=>h) (Or.inl ⟨by rfl, ?_⟩) hHeld ?_ ?_;rotate_left;(rintro w' ⟨s0,s1,s2,s3,s4,s5⟩;go_simp;with_reducible rfl);rotate_left;(simp only [Act.put,List.setIfInBounds_toArray,List.set_cons_zero,List.set_cons_succ,i64_w,i32_w];rfl)
  refine take_ (i:=13) (N:=some 19) (v:= ?_) (a':= ?_) #[true,true,true,true,true,true,true,true,true,true,true,true,true,true,false,false,false,false,false,false,false,false,false] rfl rfl (by kernel_rfl) (fun _ _ _ h=>h) (Or.inl ⟨by rfl, ?_⟩) hHeld ?_ ?_;rotate_left;(rintro w' ⟨s0,s1,s2,s3,s4,s5⟩;go_simp;with_reducible rfl);rotate_left;(simp only [Act.put,List.setIfInBounds_toArray,List.set_cons_zero,List.set_cons_succ,i64_w,i32_w];rfl)
  refine pure_ (i:=15) (N:=some 21) (v:= ?_) (a':= ?_) #[true,true,true,true,true,true,true,true,true,true,true,true,true,true,false,true,false,false,false,false,false,false,false] rfl rfl (by kernel_rfl) (fun _ _ _ h=>h) (Or.inl ⟨by rfl, ?_⟩) ?_ ?_;rotate_left;(intro w';go_simp;with_reducible rfl);rotate_left;(simp only [Act.put,List.setIfInBounds_toArray,List.set_cons_zero,List.set_cons_succ,i64_w,i32_w];rfl)
  refine take_ (i:=16) (N:=some 22) (v:= ?_) (a':= ?_) #[true,true,true,true,true,true,true,true,true,true,true,true,true,true,false,true,true,false,false,false,false,false,false] rfl rfl (by kernel_rfl) (fun _ _ _ h=>h) (Or.inl ⟨by rfl, ?_⟩) hHeld ?_ ?_;rotate_left;(rintro w' ⟨s0,s1,s2,s3,s4,s5⟩;go_simp;with_reducible rfl);rotate_left;(simp only [Act.put,List.setIfInBounds_toArray,List.set_cons_zero,List.set_cons_succ,i64_w,i32_w];rfl)
  refine pure_ (i:=17) (N:=some 23) (v:= ?_) (a':= ?_) #[true,true,true,true,true,true,true,true,true,true,true,true,true,true,false,true,true,true,false,false,false,false,false] rfl rfl (by kernel_rfl) (fun _ _ _ h=>h) (Or.inl ⟨by rfl, ?_⟩) ?_ ?_;rotate_left;(intro w';go_simp;with_reducible rfl);rotate_left;(simp only [Act.put,List.setIfInBounds_toArray,List.set_cons_zero,List.set_cons_succ,i64_w,i32_w];rfl)
  refine take_ (i:=18) (N:=some 24) (v:= ?_) (a':= ?_) #[true,true,true,true,true,true,true,true,true,true,true,true,true,true,false,true,true,true,true,false,false,false,false] rfl rfl (by kernel_rfl) (fun _ _ _ h=>h) (Or.inl ⟨by rfl, ?_⟩) hHeld ?_ ?_;rotate_left;(rintro w' ⟨s0,s1,s2,s3,s4,s5⟩;go_simp;with_reducible rfl);rotate_left;(simp only [Act.put,List.setIfInBounds_toArray,List.set_cons_zero,List.set_cons_succ,i64_w,i32_w];rfl)
  refine one_ (i:=14) (N:=some 20) #[true,true,true,true,true,true,true,true,true,true,true,true,true,true,true,true,true,true,true,false,false,false,false] rfl rfl (by kernel_rfl) (by decide) (fun K hK=> ?_)
  refine goes_ Try.func81 (by kernel_rfl) rfl #[.int .i64 (f x.f0), .int .i64 (f y.f0)] (by rfl) rfl rfl (by (try simp only [List.map_toArray,List.map_cons,List.map_nil]);rfl) ?_
  refine (cmpI_calls (f x.f0) (f y.f0) _).mono ?_
  rintro e wq ⟨rfl,hwq⟩
  rw [hwq]
  clear hwq wq
  refine ⟨_,rfl, ?_⟩
  refine hK.out _ _ ⟨(blk_cell HGD.out 0).trans rfl,(blk_cell HBK.out 1).trans rfl,(blk_cell H3.out 0).trans rfl,(blk_cell H4.out 0).trans rfl,HM.out.look Try.underlying111 HX.out _ rfl,HM.out.look Try.underlying111 HY.out _ rfl⟩ (fun hHeld=> ?_)
  clear hK K
  refine norm_ (a':= ?_) ?_ ?_
  rotate_left
  · show Act.put _ (some 20) _ = _
    simp only [Act.put,List.setIfInBounds_toArray,List.set_cons_zero,List.set_cons_succ,i64_w,i32_w]
    rfl
  refine one_ (i:=19) (N:=some 25) #[true,true,true,true,true,true,true,true,true,true,true,true,true,true,true,true,true,true,true,true,false,false,false] rfl rfl (by kernel_rfl) (by decide) (fun K hK=> ?_)
  refine goes_ Try.func82 (by kernel_rfl) rfl #[.string x.f0, .string y.f0] (by rfl) rfl rfl (by (try simp only [List.map_toArray,List.map_cons,List.map_nil]);rfl) ?_
  refine (cmpS_calls x.f0 y.f0 _).mono ?_
  rintro e wq ⟨rfl,hwq⟩
  rw [hwq]
  clear hwq wq
  refine ⟨_,rfl, ?_⟩
  refine hK.out _ _ ⟨(blk_cell HGD.out 0).trans rfl,(blk_cell HBK.out 1).trans rfl,(blk_cell H3.out 0).trans rfl,(blk_cell H4.out 0).trans rfl,HM.out.look Try.underlying111 HX.out _ rfl,HM.out.look Try.underlying111 HY.out _ rfl⟩ (fun hHeld=> ?_)
  clear hK K
  refine norm_ (a':= ?_) ?_ ?_
  rotate_left
  · show Act.put _ (some 25) _ = _
    simp only [Act.put,List.setIfInBounds_toArray,List.set_cons_zero,List.set_cons_succ,i64_w,i32_w]
    rfl
  refine one_ (i:=20) (N:=some 26) #[true,true,true,true,true,true,true,true,true,true,true,true,true,true,true,true,true,true,true,true,true,false,false] rfl rfl (by kernel_rfl) (by decide) (fun K hK=> ?_)
  refine event_step (by rfl) (v:= .slice (some ⟨w9.heap.size,0,none⟩) 2 2) (w1:=w9.alloc (.cells #[.int .i64 (cmpI (f x.f0) (f y.f0)), .int .i64 (cmpS x.f0 y.f0)] 3)) ?hr ?_
  (case hr=>first|(go_simp;done)|(go_simp;rfl))
  have hn:=blk_new w9 (.cells #[.int .i64 (cmpI (f x.f0) (f y.f0)), .int .i64 (cmpS x.f0 y.f0)] 3 (0,0))
  have n0_:=Aside0.mk (blk_alloc HGD.out (.cells #[.int .i64 (cmpI (f x.f0) (f y.f0)), .int .i64 (cmpS x.f0 y.f0)] 3))
  have n1_:=Aside0.mk (blk_alloc HBK.out (.cells #[.int .i64 (cmpI (f x.f0) (f y.f0)), .int .i64 (cmpS x.f0 y.f0)] 3))
  have n2_:=Aside0.mk (blk_alloc H3.out (.cells #[.int .i64 (cmpI (f x.f0) (f y.f0)), .int .i64 (cmpS x.f0 y.f0)] 3))
  have n3_:=Aside0.mk (blk_alloc H4.out (.cells #[.int .i64 (cmpI (f x.f0) (f y.f0)), .int .i64 (cmpS x.f0 y.f0)] 3))
  have n4_:=Aside0.mk (HM.out.below (below_alloc (Below.refl _ _) (.cells #[.int .i64 (cmpI (f x.f0) (f y.f0)), .int .i64 (cmpS x.f0 y.f0)] 3)))
  have HN:=Aside0.mk hn
  clear hn
  obtain ⟨gs,hgs⟩: ∃gs,gs=w9.heap.size:=⟨_,rfl⟩
  rw [←hgs] at HN ⊢
  obtain ⟨wA,hwA⟩: ∃wA,wA=w9.alloc (.cells #[.int .i64 (cmpI (f x.f0) (f y.f0)), .int .i64 (cmpS x.f0 y.f0)] 3):=⟨_,rfl⟩
  rw [←hwA] at HN n0_ n1_ n2_ n3_ n4_ ⊢
  clear hgs
  have HWA:=Aside0.mk hwA
  clear hwA HGD HBK H3 H4 HM
  have HGD:=n0_
  have HBK:=n1_
  have H3:=n2_
  have H4:=n3_
  have HM:=n4_
  clear n0_ n1_ n2_ n3_ n4_
  refine hK.out _ _ ⟨(blk_cell HGD.out 0).trans rfl,(blk_cell HBK.out 1).trans rfl,(blk_cell H3.out 0).trans rfl,(blk_cell H4.out 0).trans rfl,HM.out.look Try.underlying111 HX.out _ rfl,HM.out.look Try.underlying111 HY.out _ rfl⟩ (fun hHeld=> ?_)
  clear hK K
  refine norm_ (a':= ?_) ?_ ?_
  rotate_left
  · show Act.put _ (some 26) _ = _
    simp only [Act.put,List.setIfInBounds_toArray,List.set_cons_zero,List.set_cons_succ,i64_w,i32_w]
    rfl
  refine one_ (i:=21) (N:=some 27) #[true,true,true,true,true,true,true,true,true,true,true,true,true,true,true,true,true,true,true,true,true,true,false] rfl rfl (by kernel_rfl) (by decide) (fun K hK=> ?_)
  refine goes_ Try.func80 (by kernel_rfl) rfl #[.slice (some ⟨gs,0,none⟩) 2 2] (by rfl) rfl rfl (by (try simp only [List.map_toArray,List.map_cons,List.map_nil]);rfl) ?_
  refine (cmpOr_calls gs 2 (cmpI (f x.f0) (f y.f0)) (cmpS x.f0 y.f0) wA ((blk_cell HN.out 0).trans rfl) ((blk_cell HN.out 1).trans rfl)).mono ?_
  rintro e wq ⟨rfl,hwq⟩
  rw [hwq]
  clear hwq wq
  refine ⟨_,rfl, ?_⟩
  refine hK.out _ _ ⟨(blk_cell HGD.out 0).trans rfl,(blk_cell HBK.out 1).trans rfl,(blk_cell H3.out 0).trans rfl,(blk_cell H4.out 0).trans rfl,HM.out.look Try.underlying111 HX.out _ rfl,HM.out.look Try.underlying111 HY.out _ rfl⟩ (fun hHeld=> ?_)
  clear hK K
  refine norm_ (a':= ?_) ?_ ?_
  rotate_left
  · show Act.put _ (some 27) _ = _
    simp only [Act.put,List.setIfInBounds_toArray,List.set_cons_zero,List.set_cons_succ,i64_w,i32_w]
    rfl
  refine pure_ (i:=22) (N:=some 5) (v:= ?_) (a':= ?_) #[true,true,true,true,true,true,true,true,true,true,true,true,true,true,true,true,true,true,true,true,true,true,true] rfl rfl (by kernel_rfl) (fun _ _ _ h=>h) (Or.inl ⟨by rfl, ?_⟩) ?_ ?_;rotate_left;(intro w';go_simp;with_reducible rfl);rotate_left;(simp only [Act.put,List.setIfInBounds_toArray,List.set_cons_zero,List.set_cons_succ,i64_w,i32_w];rfl)
  refine done_ (by kernel_rfl) ?_
  go_wp2
  go_ret
  exact ⟨rfl,1,#[.cells #[.string x.f0, .string x.f1, .int .i64 x.f2.f0, .int .i64 x.f2.f1, .int .i64 x.f2.f2] 39, .cells #[.string y.f0, .string y.f1, .int .i64 y.f2.f0, .int .i64 y.f2.f1, .int .i64 y.f2.f2] 39]++#[.cells #[.int .i64 (cmpI (f x.f0) (f y.f0)), .int .i64 (cmpS x.f0 y.f0)] 3],by rw [HWA.out,HW.out,Sort.alloc_eq_grow,Sort.grow_grow]⟩
end Go.Proofs.Ytahidkjncljkaaa.Print

/- PlanLeads: a part -/
import Derived.Shelf.SlSortCmp.KitK
import Derived.Deep.LoopGhost
import Derived.WalkSpells
import Derived.Test.YtahidkjncljkaaaBPlanLeads0
import Derived.Test.YtahidkjncljkaaaBPlanLeads1
import Derived.Test.YtahidkjncljkaaaBPlanLeads2
import Derived.Test.YtahidkjncljkaaaBPlanLeads3
set_option linter.unusedVariables false
set_option linter.unusedSimpArgs false
namespace Go.Proofs.Ytahidkjncljkaaa.Print
open Go.Shelf Go.RowKit Go.Lib Go.Sort
structure SortT (P:Program) (k:Nat):Prop where
 mixed:P.follows .mixedOrders=true
 t0:P.underlying 0=some (TypeDesc.tuple #[])
 a0: ∀w,(isAgg 0).run P w= .ok false w
 z0: ∀w,(Go.sizeOf 0).run P w= .ok 1 w
 v0: ∀w,(zeroValue 0).run P w= .ok (Value.tuple #[]) w
 t3:P.underlying 3=some (TypeDesc.int IntKind.i64)
 a3: ∀w,(isAgg 3).run P w= .ok false w
 z3: ∀w,(Go.sizeOf 3).run P w= .ok 1 w
 v3: ∀w,(zeroValue 3).run P w= .ok (Value.int IntKind.i64 0) w
 t4:P.underlying 4=some (TypeDesc.bool)
 a4: ∀w,(isAgg 4).run P w= .ok false w
 z4: ∀w,(Go.sizeOf 4).run P w= .ok 1 w
 v4: ∀w,(zeroValue 4).run P w= .ok (Value.bool false) w
 t5:P.underlying 207=some (TypeDesc.int IntKind.u64)
 a5: ∀w,(isAgg 207).run P w= .ok false w
 z5: ∀w,(Go.sizeOf 207).run P w= .ok 1 w
 v5: ∀w,(zeroValue 207).run P w= .ok (Value.int IntKind.u64 0) w
 t22:P.underlying 22=some (TypeDesc.slice 39)
 a22: ∀w,(isAgg 22).run P w= .ok false w
 z22: ∀w,(Go.sizeOf 22).run P w= .ok 1 w
 v22: ∀w,(zeroValue 22).run P w= .ok (Value.slice none 0 0) w
 t25:P.underlying 121=some (TypeDesc.func #[39,39] #[3] false)
 a25: ∀w,(isAgg 121).run P w= .ok false w
 z25: ∀w,(Go.sizeOf 121).run P w= .ok 1 w
 v25: ∀w,(zeroValue 121).run P w= .ok (Value.nilFunc) w
 aE: ∀w,(isAgg 39).run P w= .ok true w
 zE: ∀w,(Go.sizeOf 39).run P w= .ok k w

set_option maxHeartbeats 4000000 in
set_option maxRecDepth 1000000 in
theorem swapRange_w {P:Program} {α:Type} [Inhabited α] (F:P.funcs[176]?=some Try.f176) {k:Nat} (L:SortT P k) (enc:α→List Value) (g:Nat) (cb:Array Value) (blk off cap a b n:Nat) (d0 d:Array α) (w0 w:World)
    (R:RowK enc k w0 blk off d0) (hs:d0.size=d.size) (S:SWK enc k w0 blk off d w) (hab:a+n≤b) (hb:b+n≤d.size) (hsz:d.size<4611686018427387904):
    Calls P 176 #[.slice (some ⟨blk,off,none⟩) d.size cap, .int .i64 a, .int .i64 b, .int .i64 n, .func (.func g) #[] cb] w fun e w'=>e= .returned (.tuple #[])∧ ∃d',SWK enc k w0 blk off d' w'∧SwapAt a b n d d'∧PermIn a (b+n) d d':=by
  have mixed:=L.mixed;have t0:=L.t0;have a0:=L.a0;have z0:=L.z0;have v0:=L.v0;have t3:=L.t3;have a3:=L.a3;have z3:=L.z3;have v3:=L.v3;have t4:=L.t4;have a4:=L.a4;have z4:=L.z4;have v4:=L.v4;have t5:=L.t5;have a5:=L.a5;have z5:=L.z5;have v5:=L.v5;have t22:=L.t22;have a22:=L.a22;have z22:=L.z22;have v22:=L.v22;have t25:=L.t25;have a25:=L.a25;have z25:=L.z25;have v25:=L.v25;have aE:=L.aE;have zE:=L.zE;have u0:=run_underlying L.t0;have u3:=run_underlying L.t3;have u4:=run_underlying L.t4;have u5:=run_underlying L.t5;have u22:=run_underlying L.t22;have S0:Aside (SWK enc k w0 blk off d w):=S;clear S;go_enter F,Try.ntmps176;go_wp2
  go_loopg [10] n (fun kx s10 wr=> ∃(i:Nat) (dk:Array α),s10= .int .i64 i∧i≤n∧n - i≤kx∧dk.size=d.size∧Aside (SWK enc k w0 blk off dk wr)∧Hid (SwapAt a b i d dk∧PermIn a (b+n) d dk))
  case atStart=>exact ⟨0,d,rfl,by omega,by omega,rfl,S0,(⟨swapAt_zero _ _ _,permIn_refl _ _ _⟩:_∧_)⟩
  case round=>
    clear S0;obtain ⟨i,dk,rfl,hin,hkx,hds,S1,HH⟩:=hrel;by_cases hlt:i<n;rotate_left
    · have hltz : ¬ (i : Int) < (n : Int) := by omega
      obtain rfl:i=n:=by omega
      go_wp2
      go_end0
      exact ⟨rfl,dk,S1.out,HH.out.1,HH.out.2⟩
    have hltz:(i:Int)<(n:Int):=by omega
    go_wp2_with fail
    have eaq:((a:Int)+(i:Int)).toNat=a+i:=by omega
    have paq:(0:Int)≤(a:Int)+(i:Int):=by omega
    have baq:(a:Int)+(i:Int)<(d.size:Int):=by omega
    have raq:IntKind.i64.wrap ((a:Int)+(i:Int))=(a:Int)+(i:Int):=by rw [IntKind.wrap_i64];omega
    have ecq:((b:Int)+(i:Int)).toNat=b+i:=by omega
    have pcq:(0:Int)≤(b:Int)+(i:Int):=by omega
    have bcq:(b:Int)+(i:Int)<(d.size:Int):=by omega
    have rcq:IntKind.i64.wrap ((b:Int)+(i:Int))=(b:Int)+(i:Int):=by rw [IntKind.wrap_i64];omega
    have S2:Aside (SWK enc k w0 blk off (swp dk (a+i) (b+i)) ((wr.drew.setCells blk (off+(a+i)*k) (enc dk[b+i]!)).setCells blk (off+(b+i)*k) (enc dk[a+i]!))):=S1.out.swapped R (a+i) (b+i) (by omega) (by omega);have laq:=S1.out.ld1 R (by omega) P (a+i) (by omega);have lbq:=S1.out.ld1 R (by omega) P (b+i) (by omega);have saq:=S1.out.st1 R (by omega) P (a+i) (by omega) dk[b+i]!;have sbq:=S1.out.st2 R (by omega) P (a+i) (b+i) (by omega) (by omega) dk[b+i]! dk[a+i]!;have naq:(enc dk[a+i]!).length=k:=R.hk _;have nbq:(enc dk[b+i]!).length=k:=R.hk _;generalize enc dk[a+i]! =cIq at S2 laq sbq naq;generalize enc dk[b+i]! =cJq at S2 lbq saq sbq nbq;clear S1;go_wp2_with fail
    go_big_region_o
    clear laq lbq saq sbq;generalize (wr.drew.setCells blk (off+(a+i)*k) cJq).setCells blk (off+(b+i)*k) cIq=w2 at S2 ⊢;go_wp2
    go_roundg (n - (i+1))
    case measure=>omega
    case rel=>
      have HH2:Hid (SwapAt a b (i+1) d (swp dk (a+i) (b+i))∧PermIn a (b+n) d (swp dk (a+i) (b+i))):=(⟨swapAt_step HH.out.1 (by omega) (by omega),permIn_trans _ _ _ _ _ HH.out.2 (swp_permIn dk a (b+n) (a+i) (b+i) (by omega) (by omega) (by omega) (by omega) (by omega))⟩:_∧_);exact ⟨i+1,swp dk (a+i) (b+i),by go_num,by omega,Nat.le_refl _,by rw [size_swp];exact hds,S2,HH2⟩
set_option maxHeartbeats 4000000 in
set_option maxRecDepth 1000000 in
theorem rotate_w {P:Program} {α:Type} [Inhabited α] (FS:P.funcs[176]?=some Try.f176) (F:P.funcs[169]?=some Try.f169) {k:Nat} (L:SortT P k) (enc:α→List Value) (g:Nat) (cb:Array Value) (blk off cap a m b:Nat) (d0 d:Array α) (w0 w:World)
    (R:RowK enc k w0 blk off d0) (hs:d0.size=d.size) (S:SWK enc k w0 blk off d w) (ham:a<m) (hmb:m<b) (hb:b≤d.size) (hsz:d.size<4611686018427387904):
    Calls P 169 #[.slice (some ⟨blk,off,none⟩) d.size cap, .int .i64 a, .int .i64 m, .int .i64 b, .func (.func g) #[] cb] w fun e w'=>e= .returned (.tuple #[])∧ ∃d',SWK enc k w0 blk off d' w'∧RotAt a m b d d'∧PermIn a b d d':=by
  have mixed:=L.mixed;have t0:=L.t0;have a0:=L.a0;have z0:=L.z0;have v0:=L.v0;have t3:=L.t3;have a3:=L.a3;have z3:=L.z3;have v3:=L.v3;have t4:=L.t4;have a4:=L.a4;have z4:=L.z4;have v4:=L.v4;have t5:=L.t5;have a5:=L.a5;have z5:=L.z5;have v5:=L.v5;have t22:=L.t22;have a22:=L.a22;have z22:=L.z22;have v22:=L.v22;have t25:=L.t25;have a25:=L.a25;have z25:=L.z25;have v25:=L.v25;have aE:=L.aE;have zE:=L.zE;have u0:=run_underlying L.t0;have u3:=run_underlying L.t3;have u4:=run_underlying L.t4;have u5:=run_underlying L.t5;have u22:=run_underlying L.t22;have S0:Aside (SWK enc k w0 blk off d w):=S;clear S;have eS: ∀args w,(callFunc 176 args).run P w= .ok (.enter 176 args) w:=enters_of FS (by kernel_rfl) rfl;go_enter F,Try.ntmps169;go_wp2
  go_loopg [10,11] (b - a) (fun kx s10 s11 wr=> ∃(i j:Nat) (dk:Array α),s10= .int .i64 i∧s11= .int .i64 j∧0<i∧0<j∧i≤m - a∧j≤b - m∧i+j≤kx∧dk.size=d.size∧Aside (SWK enc k w0 blk off dk wr)∧Hid ((∀d',RotAt (m - i) m (m+j) dk d'→RotAt a m b d d')∧PermIn a b d dk))
  case atStart=>exact ⟨m - a,b - m,d,by rw [show ((m - a:Nat):Int)=(m:Int) - (a:Int) by omega],by rw [show ((b - m:Nat):Int)=(b:Int) - (m:Int) by omega],by omega,by omega,by omega,by omega,by omega,rfl,S0,(⟨fun d' h=>by rwa [show m - (m - a)=a by omega,show m+(b - m)=b by omega] at h,permIn_refl _ _ _⟩:_∧_)⟩
  case round=>
    clear S0;obtain ⟨i,j,dk,rfl,rfl,hi0,hj0,him,hjm,hkx,hds,S1,HH⟩:=hrel;by_cases hne:i=j
    · subst hne
      have ha':((m - i:Nat):Int)=(m:Int) - (i:Int):=by omega
      have hcall:=swapRange_w FS L enc g cb blk off cap (m - i) m i d0 dk w0 wr R (by omega) S1.out (by omega) (by omega) (by omega)
      rw [ha',hds] at hcall
      clear S1
      have hnz:((i:Int) !=(i:Int))=false:=by simp
      go_wp2_with (go_at_fn 176;refine hcall.mono ?_;rintro e w1 ⟨rfl,d',S2,X,Y⟩;have XX:Hid (SwapAt (m - i) m i dk d'∧PermIn (m - i) (m+i) dk d'):=(⟨X,Y⟩:_∧_);have S3:Aside (SWK enc k w0 blk off d' w1):=S2;clear X Y S2)
      go_end0
      exact ⟨rfl,d',S3.out,HH.out.1 d' (rot_same (by omega) XX.out.1),permIn_trans _ _ _ _ _ HH.out.2 (permIn_mono dk d' (m - i) (m+i) a b (by omega) (by omega) (by omega) XX.out.2)⟩
    have hnz:((i:Int) !=(j:Int))=true:=by simp;omega
    by_cases hgt:j<i
    · have hgz : (j : Int) < (i : Int) := by omega
      have ha':((m - i:Nat):Int)=(m:Int) - (i:Int):=by omega
      have hcall:=swapRange_w FS L enc g cb blk off cap (m - i) m j d0 dk w0 wr R (by omega) S1.out (by omega) (by omega) (by omega)
      rw [ha',hds] at hcall
      clear S1
      go_wp2_with (go_at_fn 176;refine hcall.mono ?_;rintro e w1 ⟨rfl,d',S2,X,Y⟩;have XX:Hid (SwapAt (m - i) m j dk d'∧PermIn (m - i) (m+j) dk d'):=(⟨X,Y⟩:_∧_);have S3:Aside (SWK enc k w0 blk off d' w1):=S2;clear X Y S2)
      go_roundg (i - j+j)
      case measure=>omega
      case rel=>
        have hd':d'.size=d.size:=by rw [XX.out.1.1];exact hds
        have HH2:Hid ((∀d2,RotAt (m - (i - j)) m (m+j) d' d2→RotAt a m b d d2)∧PermIn a b d d'):=(⟨fun d2 h=>HH.out.1 d2 (rot_more hgt (by omega) XX.out.1 h),permIn_trans _ _ _ _ _ HH.out.2 (permIn_mono dk d' (m - i) (m+j) a b (by omega) (by omega) (by omega) XX.out.2)⟩:_∧_);exact ⟨i - j,j,d',by rw [show ((i - j:Nat):Int)=(i:Int) - (j:Int) by omega],rfl,by omega,hj0,by omega,hjm,Nat.le_refl _,hd',S3,HH2⟩
    have hgz: ¬(j:Int)<(i:Int):=by omega
    have ha':((m - i:Nat):Int)=(m:Int) - (i:Int):=by omega
    have hb':((m+j - i:Nat):Int)=(m:Int)+(j:Int) - (i:Int):=by omega
    have hcall:=swapRange_w FS L enc g cb blk off cap (m - i) (m+j - i) i d0 dk w0 wr R (by omega) S1.out (by omega) (by omega) (by omega);rw [ha',hb',hds] at hcall;clear S1;go_wp2_with (go_at_fn 176;refine hcall.mono ?_;rintro e w1 ⟨rfl,d',S2,X,Y⟩;have XX:Hid (SwapAt (m - i) (m+j - i) i dk d'∧PermIn (m - i) (m+j - i+i) dk d'):=(⟨X,Y⟩:_∧_);have S3:Aside (SWK enc k w0 blk off d' w1):=S2;clear X Y S2)
    go_roundg (i+(j - i))
    case measure=>omega
    case rel=>
      have hd':d'.size=d.size:=by rw [XX.out.1.1];exact hds
      have HH2:Hid ((∀d2,RotAt (m - i) m (m+(j - i)) d' d2→RotAt a m b d d2)∧PermIn a b d d'):=(⟨fun d2 h=>HH.out.1 d2 (rot_less (by omega) (by omega) XX.out.1 h),permIn_trans _ _ _ _ _ HH.out.2 (permIn_mono dk d' (m - i) (m+j - i+i) a b (by omega) (by omega) (by omega) XX.out.2)⟩:_∧_);exact ⟨i,j - i,d',rfl,by rw [show ((j - i:Nat):Int)=(j:Int) - (i:Int) by omega],hi0,by omega,him,by omega,Nat.le_refl _,hd',S3,HH2⟩
def SymR {α:Type} [Inhabited α] (P:Program) (enc:α→List Value) (cf:α→α→Int) (k g:Nat) (cb:Array Value) (blk off cap:Nat) (w0:World) (a m b:Nat) (d:Array α) (w:World):Prop:=
 Calls P 148 #[.slice (some ⟨blk,off,none⟩) d.size cap, .int .i64 a, .int .i64 m, .int .i64 b, .func (.func g) #[] cb] w fun e w'=>e= .returned (.tuple #[])∧ ∃d',SWK enc k w0 blk off d' w'∧SortedIn (ltOf cf) a b d'∧PermIn a b d d'
def SymN {α:Type} [Inhabited α] (P:Program) (enc:α→List Value) (cf:α→α→Int) (k g:Nat) (cb:Array Value) (blk off cap:Nat) (d0:Array α) (w0:World) (N:Nat):Prop:=
 ∀(a m b:Nat) (d:Array α) (w:World),b - a≤N→d0.size=d.size→SWK enc k w0 blk off d w→a<m→m<b→b≤d.size→SortedIn (ltOf cf) a m d→SortedIn (ltOf cf) m b d→SymR P enc cf k g cb blk off cap w0 a m b d w
set_option maxHeartbeats 8000000 in
set_option maxRecDepth 1000000 in
theorem symMerge_one {P:Program} {α:Type} [Inhabited α] (FS:P.funcs[176]?=some Try.f176) (FR:P.funcs[169]?=some Try.f169) (F:P.funcs[148]?=some Try.f148) {k:Nat} (L:SortT P k) (enc:α→List Value) (cf:α→α→Int) (g:Nat) (cb:Array Value) (blk off cap:Nat) (d0:Array α) (w0:World)
    (eg: ∀args w,(callFunc g args).run P w= .ok (.enter g args) w) (hcmp:CmpLays P g cb enc k cf blk off d0.size w0) (R:RowK enc k w0 blk off d0) (hO:SWO (ltOf cf)) (hsz:d0.size<2305843009213693952)
    (a m b:Nat) (d:Array α) (w:World) (c1:m=a+1) (hs:d0.size=d.size) (S:SWK enc k w0 blk off d w) (ham:a<m) (hmb:m<b) (hb:b≤d.size) (sA:SortedIn (ltOf cf) a m d) (sB:SortedIn (ltOf cf) m b d):SymR P enc cf k g cb blk off cap w0 a m b d w:=by
  unfold SymR;have mixed:=L.mixed;have t0:=L.t0;have a0:=L.a0;have z0:=L.z0;have v0:=L.v0;have t3:=L.t3;have a3:=L.a3;have z3:=L.z3;have v3:=L.v3;have t4:=L.t4;have a4:=L.a4;have z4:=L.z4;have v4:=L.v4;have t5:=L.t5;have a5:=L.a5;have z5:=L.z5;have v5:=L.v5;have t22:=L.t22;have a22:=L.a22;have z22:=L.z22;have v22:=L.v22;have t25:=L.t25;have a25:=L.a25;have z25:=L.z25;have v25:=L.v25;have aE:=L.aE;have zE:=L.zE;have u0:=run_underlying L.t0;have u3:=run_underlying L.t3;have u4:=run_underlying L.t4;have u5:=run_underlying L.t5;have u22:=run_underlying L.t22;have eR: ∀args w,(callFunc 169 args).run P w= .ok (.enter 169 args) w:=enters_of FR (by kernel_rfl) rfl;have eY: ∀args w,(callFunc 148 args).run P w= .ok (.enter 148 args) w:=enters_of F (by kernel_rfl) rfl;have HC:Aside _:=hcmp;have S0:Aside (SWK enc k w0 blk off d w):=S;have SS:Hid (SortedIn (ltOf cf) a m d∧SortedIn (ltOf cf) m b d):=(⟨sA,sB⟩:_∧_);clear hcmp S sA sB;have c1z:(m:Int) - (a:Int)=1:=by omega
  have C1:Hid (m=a+1):=c1;clear c1;go_enter F,Try.ntmps148;go_wp2
  go_loopg [10,11] (b - a) (fun kx s10 s11 wr=> ∃lo hi:Nat,s10= .int .i64 lo∧s11= .int .i64 hi∧m≤lo∧lo≤hi∧hi≤b∧hi - lo≤kx∧Aside (SWK enc k w0 blk off d wr)∧Hid ((lo=m∨ltOf cf d[lo - 1]! d[a]! =true)∧(hi=b∨ltOf cf d[hi]! d[a]! =false)))
  case atStart=>exact ⟨m,b,rfl,rfl,Nat.le_refl _,by omega,Nat.le_refl _,by omega,S0,(⟨.inl rfl, .inl rfl⟩:_∧_)⟩
  case round=>
    clear S0;obtain ⟨lo,hi,rfl,rfl,hml,hlh,hhb,hg,S1,I⟩:=hrel;by_cases hlt:lo<hi;rotate_left
    · obtain rfl : hi = lo := by omega
      have hltz: ¬(hi:Int)<(hi:Int):=by omega
      go_wp2
      go_loopg [13] (b - a) (fun kx s13 wr2=> ∃(q:Nat) (dk:Array α),s13= .int .i64 q∧a≤q∧q+1≤hi∧hi - q≤kx∧dk.size=d.size∧Aside (SWK enc k w0 blk off dk wr2)∧Hid (RotAt a (a+1) (q+1) d dk∧PermIn a b d dk))
      case atStart=>exact ⟨a,d,rfl,Nat.le_refl _,by omega,by omega,rfl,S1,(⟨rot_right _ _ _,permIn_refl _ _ _⟩:_∧_)⟩
      case round=>
        clear S1;obtain ⟨q,dk,rfl,haq,hqh,hg2,hds,S1,HH⟩:=hrel;by_cases hq:q+1<hi;rotate_left
        · have hqz : ¬ (q : Int) < (hi : Int) - 1 := by omega
          go_wp2
          (try simp only [Exit.inBlock,Exit.then]);refine bodyPost_ret (results_none rfl _ _ _) rfl ?_
          refine ⟨rfl,dk,S1.out, ?_,HH.out.2⟩
          have hr:=HH.out.1
          rw [show q+1=hi by omega] at hr
          have sB:=SS.out.2
          rw [C1.out] at sB
          have i1:=I.out.1
          rw [C1.out] at i1
          exact ins_left hO hr (by omega) hhb sB (left_lt hO sB hhb i1) (left_ge hO sB (by omega) I.out.2)
        have hqz:(q:Int)<(hi:Int) - 1:=by omega
        go_wp2_with fail
        have eaq:((q:Int)).toNat=q:=by omega
        have paq:(0:Int)≤(q:Int):=by omega
        have baq:(q:Int)<(d.size:Int):=by omega
        have raq:IntKind.i64.wrap ((q:Int))=(q:Int):=by rw [IntKind.wrap_i64];omega
        have ecq:((q:Int)+1).toNat=q+1:=by omega
        have pcq:(0:Int)≤(q:Int)+1:=by omega
        have bcq:(q:Int)+1<(d.size:Int):=by omega
        have rcq:IntKind.i64.wrap ((q:Int)+1)=(q:Int)+1:=by rw [IntKind.wrap_i64];omega
        have S2:Aside (SWK enc k w0 blk off (swp dk (q) (q+1)) ((wr.drew.setCells blk (off+(q)*k) (enc dk[q+1]!)).setCells blk (off+(q+1)*k) (enc dk[q]!))):=S1.out.swapped R (q) (q+1) (by omega) (by omega);have laq:=S1.out.ld1 R (by omega) P (q) (by omega);have lbq:=S1.out.ld1 R (by omega) P (q+1) (by omega);have saq:=S1.out.st1 R (by omega) P (q) (by omega) dk[q+1]!;have sbq:=S1.out.st2 R (by omega) P (q) (q+1) (by omega) (by omega) dk[q+1]! dk[q]!;have naq:(enc dk[q]!).length=k:=R.hk _;have nbq:(enc dk[q+1]!).length=k:=R.hk _;generalize enc dk[q]! =cIq at S2 laq sbq naq;generalize enc dk[q+1]! =cJq at S2 lbq saq sbq nbq;clear S1;go_wp2_with fail
        go_big_region_o
        clear laq lbq saq sbq;generalize (wr.drew.setCells blk (off+(q)*k) cJq).setCells blk (off+(q+1)*k) cIq=w3 at S2 ⊢;go_wp2
        go_roundg (hi - (q+1))
        case measure=>omega
        case rel=>
          have HH2:Hid (RotAt a (a+1) (q+1+1) d (swp dk q (q+1))∧PermIn a b d (swp dk q (q+1))):=(⟨rot_up HH.out.1 haq (by omega),permIn_trans _ _ _ _ _ HH.out.2 (swp_permIn dk a b q (q+1) (by omega) (by omega) (by omega) (by omega) (by omega))⟩:_∧_);exact ⟨q+1,swp dk q (q+1),by go_num,by omega,by omega,Nat.le_refl _,by rw [size_swp];exact hds,S2,HH2⟩
    have hltz:(lo:Int)<(hi:Int):=by omega
    cases hlv:ltOf cf d[(lo+hi) / 2]! d[a]! with
    | true =>
      have eaht:(((lo:Int)+(hi:Int)) / 2).toNat=(lo+hi) / 2:=by omega
      have paht:(0:Int)≤((lo:Int)+(hi:Int)) / 2:=by omega
      have baht:((lo:Int)+(hi:Int)) / 2<(d.size:Int):=by omega
      have raht:IntKind.i64.wrap (((lo:Int)+(hi:Int)) / 2)=((lo:Int)+(hi:Int)) / 2:=by rw [IntKind.wrap_i64];omega
      have echt:((a:Int)).toNat=a:=by omega
      have pcht:(0:Int)≤(a:Int):=by omega
      have bcht:(a:Int)<(d.size:Int):=by omega
      have rcht:IntKind.i64.wrap ((a:Int))=(a:Int):=by rw [IntKind.wrap_i64];omega
      obtain ⟨xht,hxht⟩: ∃x,x=d[(lo+hi) / 2]!:=⟨_,rfl⟩;obtain ⟨yht,hyht⟩: ∃x,x=d[a]!:=⟨_,rfl⟩;have laht:=S1.out.ld R (by omega) P ((lo+hi) / 2) (by omega);have lbht:=S1.out.ld R (by omega) P (a) (by omega);rw [←hxht] at laht;rw [←hyht] at lbht;have hcht:=S1.out.cmp HC.out (by omega) xht yht;have hvht:cf xht yht<0:=by rw [hxht,hyht];exact of_decide_eq_true hlv
      have hdht:decide (cf xht yht<0)=true:=decide_eq_true hvht;clear hxht hyht;go_wp2_with fail
      go_quiet_grown (first|(go_at_fn g;refine Calls.grown_of (hcht _ _)))
      have S2:Aside (SWK enc k w0 blk off d (grow (wr.drewN nq) osq)):=S1.out.grown nq osq;clear laht lbht hcht S1;generalize grow (wr.drewN nq) osq=w2 at S2 ⊢;clear nq osq;go_wp2
      go_roundg (hi - ((lo+hi) / 2+1))
      case measure=>omega
      case rel=>
        have I2:Hid ((((lo+hi) / 2+1)=m∨ltOf cf d[((lo+hi) / 2+1) - 1]! d[a]! =true)∧(hi=b∨ltOf cf d[hi]! d[a]! =false)):=(⟨.inr hlv,I.out.2⟩:_∧_);exact ⟨(lo+hi) / 2+1,hi,by rw [show ((lo:Int)+(hi:Int)) / 2+1=(((lo+hi) / 2+1:Nat):Int) by omega],rfl,by omega,by omega,by omega,Nat.le_refl _,S2,I2⟩
    | false =>
      have eahf:(((lo:Int)+(hi:Int)) / 2).toNat=(lo+hi) / 2:=by omega
      have pahf:(0:Int)≤((lo:Int)+(hi:Int)) / 2:=by omega
      have bahf:((lo:Int)+(hi:Int)) / 2<(d.size:Int):=by omega
      have rahf:IntKind.i64.wrap (((lo:Int)+(hi:Int)) / 2)=((lo:Int)+(hi:Int)) / 2:=by rw [IntKind.wrap_i64];omega
      have echf:((a:Int)).toNat=a:=by omega
      have pchf:(0:Int)≤(a:Int):=by omega
      have bchf:(a:Int)<(d.size:Int):=by omega
      have rchf:IntKind.i64.wrap ((a:Int))=(a:Int):=by rw [IntKind.wrap_i64];omega
      obtain ⟨xhf,hxhf⟩: ∃x,x=d[(lo+hi) / 2]!:=⟨_,rfl⟩;obtain ⟨yhf,hyhf⟩: ∃x,x=d[a]!:=⟨_,rfl⟩;have lahf:=S1.out.ld R (by omega) P ((lo+hi) / 2) (by omega);have lbhf:=S1.out.ld R (by omega) P (a) (by omega);rw [←hxhf] at lahf;rw [←hyhf] at lbhf;have hchf:=S1.out.cmp HC.out (by omega) xhf yhf;have hvhf: ¬cf xhf yhf<0:=by rw [hxhf,hyhf];exact of_decide_eq_false hlv
      have hdhf:decide (cf xhf yhf<0)=false:=decide_eq_false hvhf;clear hxhf hyhf;go_wp2_with fail
      go_quiet_grown (first|(go_at_fn g;refine Calls.grown_of (hchf _ _)))
      have S2:Aside (SWK enc k w0 blk off d (grow (wr.drewN nq) osq)):=S1.out.grown nq osq;clear lahf lbhf hchf S1;generalize grow (wr.drewN nq) osq=w2 at S2 ⊢;clear nq osq;go_wp2
      go_roundg ((lo+hi) / 2 - lo)
      case measure=>omega
      case rel=>
        have I2:Hid ((lo=m∨ltOf cf d[lo - 1]! d[a]! =true)∧(((lo+hi) / 2)=b∨ltOf cf d[((lo+hi) / 2)]! d[a]! =false)):=(⟨I.out.1, .inr hlv⟩:_∧_);exact ⟨lo,(lo+hi) / 2,rfl,by rw [show ((lo:Int)+(hi:Int)) / 2=(((lo+hi) / 2:Nat):Int) by omega],by omega,by omega,by omega,Nat.le_refl _,S2,I2⟩
set_option maxHeartbeats 8000000 in
set_option maxRecDepth 1000000 in
theorem symMerge_last {P:Program} {α:Type} [Inhabited α] (FS:P.funcs[176]?=some Try.f176) (FR:P.funcs[169]?=some Try.f169) (F:P.funcs[148]?=some Try.f148) {k:Nat} (L:SortT P k) (enc:α→List Value) (cf:α→α→Int) (g:Nat) (cb:Array Value) (blk off cap:Nat) (d0:Array α) (w0:World)
    (eg: ∀args w,(callFunc g args).run P w= .ok (.enter g args) w) (hcmp:CmpLays P g cb enc k cf blk off d0.size w0) (R:RowK enc k w0 blk off d0) (hO:SWO (ltOf cf)) (hsz:d0.size<2305843009213693952)
    (a m b:Nat) (d:Array α) (w:World) (c1: ¬m=a+1) (c2:b=m+1) (hs:d0.size=d.size) (S:SWK enc k w0 blk off d w) (ham:a<m) (hmb:m<b) (hb:b≤d.size) (sA:SortedIn (ltOf cf) a m d) (sB:SortedIn (ltOf cf) m b d):SymR P enc cf k g cb blk off cap w0 a m b d w:=by
  unfold SymR;have mixed:=L.mixed;have t0:=L.t0;have a0:=L.a0;have z0:=L.z0;have v0:=L.v0;have t3:=L.t3;have a3:=L.a3;have z3:=L.z3;have v3:=L.v3;have t4:=L.t4;have a4:=L.a4;have z4:=L.z4;have v4:=L.v4;have t5:=L.t5;have a5:=L.a5;have z5:=L.z5;have v5:=L.v5;have t22:=L.t22;have a22:=L.a22;have z22:=L.z22;have v22:=L.v22;have t25:=L.t25;have a25:=L.a25;have z25:=L.z25;have v25:=L.v25;have aE:=L.aE;have zE:=L.zE;have u0:=run_underlying L.t0;have u3:=run_underlying L.t3;have u4:=run_underlying L.t4;have u5:=run_underlying L.t5;have u22:=run_underlying L.t22;have eR: ∀args w,(callFunc 169 args).run P w= .ok (.enter 169 args) w:=enters_of FR (by kernel_rfl) rfl;have eY: ∀args w,(callFunc 148 args).run P w= .ok (.enter 148 args) w:=enters_of F (by kernel_rfl) rfl;have HC:Aside _:=hcmp;have S0:Aside (SWK enc k w0 blk off d w):=S;have SS:Hid (SortedIn (ltOf cf) a m d∧SortedIn (ltOf cf) m b d):=(⟨sA,sB⟩:_∧_);clear hcmp S sA sB;have c1z:((m:Int) - (a:Int)==1)=false:=by simp;omega
  have c2z:(b:Int) - (m:Int)=1:=by omega
  have C2:Hid (b=m+1):=c2;clear c2;go_enter F,Try.ntmps148;go_wp2
  go_loopg [14,15] (b - a) (fun kx s10 s11 wr=> ∃lo hi:Nat,s10= .int .i64 lo∧s11= .int .i64 hi∧a≤lo∧lo≤hi∧hi≤m∧hi - lo≤kx∧Aside (SWK enc k w0 blk off d wr)∧Hid ((lo=a∨ltOf cf d[m]! d[lo - 1]! =false)∧(hi=m∨ltOf cf d[m]! d[hi]! =true)))
  case atStart=>exact ⟨a,m,rfl,rfl,Nat.le_refl _,by omega,Nat.le_refl _,by omega,S0,(⟨.inl rfl, .inl rfl⟩:_∧_)⟩
  case round=>
    clear S0;obtain ⟨lo,hi,rfl,rfl,hml,hlh,hhb,hg,S1,I⟩:=hrel;by_cases hlt:lo<hi;rotate_left
    · obtain rfl : hi = lo := by omega
      have hltz: ¬(hi:Int)<(hi:Int):=by omega
      go_wp2
      go_loopg [17] (b - a) (fun kx s17 wr2=> ∃(q:Nat) (dk:Array α),s17= .int .i64 q∧hi≤q∧q≤m∧q - hi≤kx∧dk.size=d.size∧Aside (SWK enc k w0 blk off dk wr2)∧Hid (RotAt q m (m+1) d dk∧PermIn a b d dk))
      case atStart=>exact ⟨m,d,rfl,by omega,Nat.le_refl _,by omega,rfl,S1,(⟨rot_left _ _ _,permIn_refl _ _ _⟩:_∧_)⟩
      case round=>
        clear S1;obtain ⟨q,dk,rfl,haq,hqh,hg2,hds,S1,HH⟩:=hrel;by_cases hq:hi<q;rotate_left
        · have hqz : ¬ (hi : Int) < (q : Int) := by omega
          go_wp2
          (try simp only [Exit.inBlock,Exit.then]);refine bodyPost_ret (results_none rfl _ _ _) rfl ?_
          refine ⟨rfl,dk,S1.out, ?_,HH.out.2⟩
          have hr:=HH.out.1
          rw [show q=hi by omega] at hr
          rw [C2.out]
          exact ins_right_ hO hr hml hhb SS.out.1 (right_le hO SS.out.1 hhb I.out.1) (right_gt hO SS.out.1 hml I.out.2)
        obtain ⟨q,rfl⟩: ∃p,q=p+1:=⟨q - 1,by omega⟩;have hqz:(hi:Int)<(q:Int)+1:=by omega
        go_wp2_with fail
        have eaq:((q:Int)+1).toNat=q+1:=by omega
        have paq:(0:Int)≤(q:Int)+1:=by omega
        have baq:(q:Int)+1<(d.size:Int):=by omega
        have raq:IntKind.i64.wrap ((q:Int)+1)=(q:Int)+1:=by rw [IntKind.wrap_i64];omega
        have ecq:((q:Int)).toNat=q:=by omega
        have pcq:(0:Int)≤(q:Int):=by omega
        have bcq:(q:Int)<(d.size:Int):=by omega
        have rcq:IntKind.i64.wrap ((q:Int))=(q:Int):=by rw [IntKind.wrap_i64];omega
        have S2:Aside (SWK enc k w0 blk off (swp dk (q+1) (q)) ((wr.drew.setCells blk (off+(q+1)*k) (enc dk[q]!)).setCells blk (off+(q)*k) (enc dk[q+1]!))):=S1.out.swapped R (q+1) (q) (by omega) (by omega);have laq:=S1.out.ld1 R (by omega) P (q+1) (by omega);have lbq:=S1.out.ld1 R (by omega) P (q) (by omega);have saq:=S1.out.st1 R (by omega) P (q+1) (by omega) dk[q]!;have sbq:=S1.out.st2 R (by omega) P (q+1) (q) (by omega) (by omega) dk[q]! dk[q+1]!;have naq:(enc dk[q+1]!).length=k:=R.hk _;have nbq:(enc dk[q]!).length=k:=R.hk _;generalize enc dk[q+1]! =cIq at S2 laq sbq naq;generalize enc dk[q]! =cJq at S2 lbq saq sbq nbq;clear S1;go_wp2_with fail
        go_big_region_o
        clear laq lbq saq sbq;generalize (wr.drew.setCells blk (off+(q+1)*k) cJq).setCells blk (off+(q)*k) cIq=w3 at S2 ⊢;go_wp2
        go_roundg (q - hi)
        case measure=>omega
        case rel=>
          have HH2:Hid (RotAt q m (m+1) d (swp dk (q+1) q)∧PermIn a b d (swp dk (q+1) q)):=(⟨rot_down HH.out.1 (by omega) (by omega),permIn_trans _ _ _ _ _ HH.out.2 (swp_permIn dk a b (q+1) q (by omega) (by omega) (by omega) (by omega) (by omega))⟩:_∧_);exact ⟨q,swp dk (q+1) q,by go_num,by omega,by omega,Nat.le_refl _,by rw [size_swp];exact hds,S2,HH2⟩
    have hltz:(lo:Int)<(hi:Int):=by omega
    cases hlv:ltOf cf d[m]! d[(lo+hi) / 2]! with
    | true =>
      have eaht:((m:Int)).toNat=m:=by omega
      have paht:(0:Int)≤(m:Int):=by omega
      have baht:(m:Int)<(d.size:Int):=by omega
      have raht:IntKind.i64.wrap ((m:Int))=(m:Int):=by rw [IntKind.wrap_i64];omega
      have echt:(((lo:Int)+(hi:Int)) / 2).toNat=(lo+hi) / 2:=by omega
      have pcht:(0:Int)≤((lo:Int)+(hi:Int)) / 2:=by omega
      have bcht:((lo:Int)+(hi:Int)) / 2<(d.size:Int):=by omega
      have rcht:IntKind.i64.wrap (((lo:Int)+(hi:Int)) / 2)=((lo:Int)+(hi:Int)) / 2:=by rw [IntKind.wrap_i64];omega
      obtain ⟨xht,hxht⟩: ∃x,x=d[m]!:=⟨_,rfl⟩;obtain ⟨yht,hyht⟩: ∃x,x=d[(lo+hi) / 2]!:=⟨_,rfl⟩;have laht:=S1.out.ld R (by omega) P (m) (by omega);have lbht:=S1.out.ld R (by omega) P ((lo+hi) / 2) (by omega);rw [←hxht] at laht;rw [←hyht] at lbht;have hcht:=S1.out.cmp HC.out (by omega) xht yht;have hvht:cf xht yht<0:=by rw [hxht,hyht];exact of_decide_eq_true hlv
      have hdht:decide (cf xht yht<0)=true:=decide_eq_true hvht;clear hxht hyht;go_wp2_with fail
      go_quiet_grown (first|(go_at_fn g;refine Calls.grown_of (hcht _ _)))
      have S2:Aside (SWK enc k w0 blk off d (grow (wr.drewN nq) osq)):=S1.out.grown nq osq;clear laht lbht hcht S1;generalize grow (wr.drewN nq) osq=w2 at S2 ⊢;clear nq osq;go_wp2
      go_roundg ((lo+hi) / 2 - lo)
      case measure=>omega
      case rel=>
        have I2:Hid ((lo=a∨ltOf cf d[m]! d[lo - 1]! =false)∧(((lo+hi) / 2)=m∨ltOf cf d[m]! d[((lo+hi) / 2)]! =true)):=(⟨I.out.1, .inr hlv⟩:_∧_);exact ⟨lo,(lo+hi) / 2,rfl,by rw [show ((lo:Int)+(hi:Int)) / 2=(((lo+hi) / 2:Nat):Int) by omega],by omega,by omega,by omega,Nat.le_refl _,S2,I2⟩
    | false =>
      have eahf:((m:Int)).toNat=m:=by omega
      have pahf:(0:Int)≤(m:Int):=by omega
      have bahf:(m:Int)<(d.size:Int):=by omega
      have rahf:IntKind.i64.wrap ((m:Int))=(m:Int):=by rw [IntKind.wrap_i64];omega
      have echf:(((lo:Int)+(hi:Int)) / 2).toNat=(lo+hi) / 2:=by omega
      have pchf:(0:Int)≤((lo:Int)+(hi:Int)) / 2:=by omega
      have bchf:((lo:Int)+(hi:Int)) / 2<(d.size:Int):=by omega
      have rchf:IntKind.i64.wrap (((lo:Int)+(hi:Int)) / 2)=((lo:Int)+(hi:Int)) / 2:=by rw [IntKind.wrap_i64];omega
      obtain ⟨xhf,hxhf⟩: ∃x,x=d[m]!:=⟨_,rfl⟩;obtain ⟨yhf,hyhf⟩: ∃x,x=d[(lo+hi) / 2]!:=⟨_,rfl⟩;have lahf:=S1.out.ld R (by omega) P (m) (by omega);have lbhf:=S1.out.ld R (by omega) P ((lo+hi) / 2) (by omega);rw [←hxhf] at lahf;rw [←hyhf] at lbhf;have hchf:=S1.out.cmp HC.out (by omega) xhf yhf;have hvhf: ¬cf xhf yhf<0:=by rw [hxhf,hyhf];exact of_decide_eq_false hlv
      have hdhf:decide (cf xhf yhf<0)=false:=decide_eq_false hvhf;clear hxhf hyhf;go_wp2_with fail
      go_quiet_grown (first|(go_at_fn g;refine Calls.grown_of (hchf _ _)))
      have S2:Aside (SWK enc k w0 blk off d (grow (wr.drewN nq) osq)):=S1.out.grown nq osq;clear lahf lbhf hchf S1;generalize grow (wr.drewN nq) osq=w2 at S2 ⊢;clear nq osq;go_wp2
      go_roundg (hi - ((lo+hi) / 2+1))
      case measure=>omega
      case rel=>
        have I2:Hid ((((lo+hi) / 2+1)=a∨ltOf cf d[m]! d[((lo+hi) / 2+1) - 1]! =false)∧(hi=m∨ltOf cf d[m]! d[hi]! =true)):=(⟨.inr hlv,I.out.2⟩:_∧_);exact ⟨(lo+hi) / 2+1,hi,by rw [show ((lo:Int)+(hi:Int)) / 2+1=(((lo+hi) / 2+1:Nat):Int) by omega],rfl,by omega,by omega,by omega,Nat.le_refl _,S2,I2⟩
set_option maxHeartbeats 8000000 in
set_option maxRecDepth 1000000 in
theorem symMerge_big {P:Program} {α:Type} [Inhabited α] (FS:P.funcs[176]?=some Try.f176) (FR:P.funcs[169]?=some Try.f169) (F:P.funcs[148]?=some Try.f148) {k:Nat} (L:SortT P k) (enc:α→List Value) (cf:α→α→Int) (g:Nat) (cb:Array Value) (blk off cap:Nat) (d0:Array α) (w0:World)
    (eg: ∀args w,(callFunc g args).run P w= .ok (.enter g args) w) (hcmp:CmpLays P g cb enc k cf blk off d0.size w0) (R:RowK enc k w0 blk off d0) (hO:SWO (ltOf cf)) (hsz:d0.size<2305843009213693952) (N:Nat) (ih:SymN P enc cf k g cb blk off cap d0 w0 N)
    (a m b:Nat) (d:Array α) (w:World) (hN:b - a≤N+1) (c1: ¬m=a+1) (c2: ¬b=m+1) (hs:d0.size=d.size) (S:SWK enc k w0 blk off d w) (ham:a<m) (hmb:m<b) (hb:b≤d.size) (sA:SortedIn (ltOf cf) a m d) (sB:SortedIn (ltOf cf) m b d):SymR P enc cf k g cb blk off cap w0 a m b d w:=by
  unfold SymR;have mixed:=L.mixed;have t0:=L.t0;have a0:=L.a0;have z0:=L.z0;have v0:=L.v0;have t3:=L.t3;have a3:=L.a3;have z3:=L.z3;have v3:=L.v3;have t4:=L.t4;have a4:=L.a4;have z4:=L.z4;have v4:=L.v4;have t5:=L.t5;have a5:=L.a5;have z5:=L.z5;have v5:=L.v5;have t22:=L.t22;have a22:=L.a22;have z22:=L.z22;have v22:=L.v22;have t25:=L.t25;have a25:=L.a25;have z25:=L.z25;have v25:=L.v25;have aE:=L.aE;have zE:=L.zE;have u0:=run_underlying L.t0;have u3:=run_underlying L.t3;have u4:=run_underlying L.t4;have u5:=run_underlying L.t5;have u22:=run_underlying L.t22;have eR: ∀args w,(callFunc 169 args).run P w= .ok (.enter 169 args) w:=enters_of FR (by kernel_rfl) rfl;have eY: ∀args w,(callFunc 148 args).run P w= .ok (.enter 148 args) w:=enters_of F (by kernel_rfl) rfl;have HC:Aside _:=hcmp;have S0:Aside (SWK enc k w0 blk off d w):=S;have SS:Hid (SortedIn (ltOf cf) a m d∧SortedIn (ltOf cf) m b d):=(⟨sA,sB⟩:_∧_);have IH:Hid _:=ih;clear hcmp S sA sB ih;have c1z:((m:Int) - (a:Int)==1)=false:=by simp;omega
  have c2z:((b:Int) - (m:Int)==1)=false:=by simp;omega
  obtain ⟨mid,hmid⟩: ∃mid:Nat,2*mid≤a+b∧a+b≤2*mid+1:=⟨(a+b) / 2,by omega⟩;have hmz:((a:Int)+(b:Int)) / 2=(mid:Int):=by omega
  obtain ⟨pz,hpz⟩: ∃p:Nat,p+1≤mid+m∧mid+m≤p+1:=⟨mid+m - 1,by omega⟩;have hpq:(mid:Int)+(m:Int) - 1=(pz:Int):=by omega
  go_enter F,Try.ntmps148;have HMZ:Hid _:=hmz;clear hmz;go_upto_region 25 with (fail)
  rw [HMZ.out];go_upto_if 140 with (fail)
  go_cut [20,21] (fun v20 v21 wc=> ∃lo hi:Nat,v20= .int .i64 lo∧v21= .int .i64 hi∧a≤lo∧lo≤hi∧hi≤m∧hi≤mid∧mid+m - lo≤b∧m≤mid+m - hi∧Aside (SWK enc k w0 blk off d wc)∧Hid (((lo=a∨mid+m - lo=b)∨ltOf cf d[mid+m - lo]! d[lo - 1]! =false)∧((hi=m∨mid+m - hi=m)∨ltOf cf d[mid+m - hi - 1]! d[hi]! =true)))
  case first=>
    as_aux_lemma=>
      by_cases hgt:mid<m
      · have hgz : (mid : Int) < (m : Int) := by omega
        go_wp2
        go_meet
        case rel=>exact ⟨mid+m - b,mid,by rw [show ((mid+m - b:Nat):Int)=(mid:Int)+(m:Int) - (b:Int) by omega],rfl,by omega,by omega,by omega,Nat.le_refl _,by omega,by omega,S0,(⟨.inl (.inr (by omega)), .inl (.inr (by omega))⟩:_∧_)⟩
      have hgz: ¬(mid:Int)<(m:Int):=by omega
      go_wp2
      go_meet
      case rel=>exact ⟨a,m,rfl,rfl,by omega,by omega,Nat.le_refl _,by omega,by omega,by omega,S0,(⟨.inl (.inl rfl), .inl (.inl rfl)⟩:_∧_)⟩
  case rest=>
    clear S0;obtain ⟨lo0,hi0,rfl,rfl,b1,b2,b3,b4,b5,b6,S0,I0⟩:=hcut;go_wp2
    go_loopg [20,21] (b - a) (fun kx s20 s21 wr=> ∃lo hi:Nat,s20= .int .i64 lo∧s21= .int .i64 hi∧lo0≤lo∧lo≤hi∧hi≤hi0∧hi - lo≤kx∧Aside (SWK enc k w0 blk off d wr)∧Hid (((lo=a∨mid+m - lo=b)∨ltOf cf d[mid+m - lo]! d[lo - 1]! =false)∧((hi=m∨mid+m - hi=m)∨ltOf cf d[mid+m - hi - 1]! d[hi]! =true)))
    case atStart=>exact ⟨lo0,hi0,rfl,rfl,Nat.le_refl _,by omega,Nat.le_refl _,by omega,S0,I0⟩
    case round=>
      clear S0 I0;obtain ⟨lo,hi,rfl,rfl,hml,hlh,hhb,hg,S1,I⟩:=hrel;by_cases hlt:lo<hi
      · have hltz : (lo : Int) < (hi : Int) := by omega
        obtain ⟨xq,hxq⟩: ∃x:Nat,x+(lo+hi) / 2≤pz∧pz≤x+(lo+hi) / 2:=⟨pz - (lo+hi) / 2,by omega⟩
        have hxd:(pz:Int) - ((lo:Int)+(hi:Int)) / 2=(xq:Int):=by omega
        cases hlv:ltOf cf d[xq]! d[(lo+hi) / 2]! with
        | true =>
          have eaht:((xq:Int)).toNat=xq:=by omega
          have paht:(0:Int)≤(xq:Int):=by omega
          have baht:(xq:Int)<(d.size:Int):=by omega
          have raht:IntKind.i64.wrap ((xq:Int))=(xq:Int):=by rw [IntKind.wrap_i64];omega
          have echt:(((lo:Int)+(hi:Int)) / 2).toNat=(lo+hi) / 2:=by omega
          have pcht:(0:Int)≤((lo:Int)+(hi:Int)) / 2:=by omega
          have bcht:((lo:Int)+(hi:Int)) / 2<(d.size:Int):=by omega
          have rcht:IntKind.i64.wrap (((lo:Int)+(hi:Int)) / 2)=((lo:Int)+(hi:Int)) / 2:=by rw [IntKind.wrap_i64];omega
          obtain ⟨xht,hxht⟩: ∃x,x=d[xq]!:=⟨_,rfl⟩;obtain ⟨yht,hyht⟩: ∃x,x=d[(lo+hi) / 2]!:=⟨_,rfl⟩;have laht:=S1.out.ld R (by omega) P (xq) (by omega);have lbht:=S1.out.ld R (by omega) P ((lo+hi) / 2) (by omega);rw [←hxht] at laht;rw [←hyht] at lbht;have hcht:=S1.out.cmp HC.out (by omega) xht yht;have hvht:cf xht yht<0:=by rw [hxht,hyht];exact of_decide_eq_true hlv
          have hdht:decide (cf xht yht<0)=true:=decide_eq_true hvht;clear hxht hyht;go_wp2_with fail
          go_quiet_grown (first|(go_at_fn g;refine Calls.grown_of (hcht _ _)))
          have S2:Aside (SWK enc k w0 blk off d (grow (wr.drewN nq) osq)):=S1.out.grown nq osq;clear laht lbht hcht S1;generalize grow (wr.drewN nq) osq=w2 at S2 ⊢;clear nq osq;go_wp2
          go_roundg ((lo+hi) / 2 - lo)
          case measure=>omega
          case rel=>
            have I2:Hid (((lo=a∨mid+m - lo=b)∨ltOf cf d[mid+m - lo]! d[lo - 1]! =false)∧((((lo+hi) / 2)=m∨mid+m - ((lo+hi) / 2)=m)∨ltOf cf d[mid+m - ((lo+hi) / 2) - 1]! d[((lo+hi) / 2)]! =true)):=(⟨I.out.1, .inr (by rw [show mid+m - ((lo+hi) / 2) - 1=xq by omega];exact hlv)⟩:_∧_);exact ⟨lo,(lo+hi) / 2,rfl,by rw [show ((lo:Int)+(hi:Int)) / 2=(((lo+hi) / 2:Nat):Int) by omega],by omega,by omega,by omega,Nat.le_refl _,S2,I2⟩
        | false =>
          have eahf:((xq:Int)).toNat=xq:=by omega
          have pahf:(0:Int)≤(xq:Int):=by omega
          have bahf:(xq:Int)<(d.size:Int):=by omega
          have rahf:IntKind.i64.wrap ((xq:Int))=(xq:Int):=by rw [IntKind.wrap_i64];omega
          have echf:(((lo:Int)+(hi:Int)) / 2).toNat=(lo+hi) / 2:=by omega
          have pchf:(0:Int)≤((lo:Int)+(hi:Int)) / 2:=by omega
          have bchf:((lo:Int)+(hi:Int)) / 2<(d.size:Int):=by omega
          have rchf:IntKind.i64.wrap (((lo:Int)+(hi:Int)) / 2)=((lo:Int)+(hi:Int)) / 2:=by rw [IntKind.wrap_i64];omega
          obtain ⟨xhf,hxhf⟩: ∃x,x=d[xq]!:=⟨_,rfl⟩;obtain ⟨yhf,hyhf⟩: ∃x,x=d[(lo+hi) / 2]!:=⟨_,rfl⟩;have lahf:=S1.out.ld R (by omega) P (xq) (by omega);have lbhf:=S1.out.ld R (by omega) P ((lo+hi) / 2) (by omega);rw [←hxhf] at lahf;rw [←hyhf] at lbhf;have hchf:=S1.out.cmp HC.out (by omega) xhf yhf;have hvhf: ¬cf xhf yhf<0:=by rw [hxhf,hyhf];exact of_decide_eq_false hlv
          have hdhf:decide (cf xhf yhf<0)=false:=decide_eq_false hvhf;clear hxhf hyhf;go_wp2_with fail
          go_quiet_grown (first|(go_at_fn g;refine Calls.grown_of (hchf _ _)))
          have S2:Aside (SWK enc k w0 blk off d (grow (wr.drewN nq) osq)):=S1.out.grown nq osq;clear lahf lbhf hchf S1;generalize grow (wr.drewN nq) osq=w2 at S2 ⊢;clear nq osq;go_wp2
          go_roundg (hi - ((lo+hi) / 2+1))
          case measure=>omega
          case rel=>
            have I2:Hid (((((lo+hi) / 2+1)=a∨mid+m - ((lo+hi) / 2+1)=b)∨ltOf cf d[mid+m - ((lo+hi) / 2+1)]! d[((lo+hi) / 2+1) - 1]! =false)∧((hi=m∨mid+m - hi=m)∨ltOf cf d[mid+m - hi - 1]! d[hi]! =true)):=(⟨.inr (by rw [show mid+m - ((lo+hi) / 2+1)=xq by omega];exact hlv),I.out.2⟩:_∧_);exact ⟨(lo+hi) / 2+1,hi,by rw [show ((lo:Int)+(hi:Int)) / 2+1=(((lo+hi) / 2+1:Nat):Int) by omega],rfl,by omega,by omega,by omega,Nat.le_refl _,S2,I2⟩
      obtain rfl:hi=lo:=by omega
      have hltz: ¬(hi:Int)<(hi:Int):=by omega
      obtain ⟨e,he⟩: ∃e:Nat,e+hi≤mid+m∧mid+m≤e+hi:=⟨mid+m - hi,by omega⟩;have hez:(mid:Int)+(m:Int) - (hi:Int)=(e:Int):=by omega
      have IE:Hid (((hi=a∨e=b)∨ltOf cf d[e]! d[hi - 1]! =false)∧((hi=m∨e=m)∨ltOf cf d[e - 1]! d[hi]! =true)):=by rw [show e=mid+m - hi by omega];exact I
      clear I;go_upto_region 39 with (fail)
      go_cut [185] (fun v wc=> ∃q:Bool,v= .bool q∧Hid (q=true↔(hi<m∧m<e))∧Aside (SWK enc k w0 blk off d wc))
      case first=>
        as_aux_lemma=>
          by_cases hr1:hi<m;rotate_left
          · have hr1z : ¬ (hi : Int) < (m : Int) := by omega
            go_wp2
            go_meet
            case rel=>exact ⟨false,rfl,(show Hid _ from (⟨fun h=>absurd h (by simp),fun h=>absurd h.1 hr1⟩:false=true↔(hi<m∧m<e))),S1⟩
          have hr1z:(hi:Int)<(m:Int):=by omega
          by_cases hr2:m<e
          · have hr2z : (m : Int) < (e : Int) := by omega
            go_wp2
            go_meet
            case rel=>exact ⟨true,rfl,(show Hid _ from (⟨fun _=>⟨hr1,hr2⟩,fun _=>rfl⟩:true=true↔(hi<m∧m<e))),S1⟩
          have hr2z: ¬(m:Int)<(e:Int):=by omega
          go_wp2
          go_meet
          case rel=>exact ⟨false,rfl,(show Hid _ from (⟨fun h=>absurd h (by simp),fun h=>absurd h.2 hr2⟩:false=true↔(hi<m∧m<e))),S1⟩
      case rest=>
      clear S1;obtain ⟨q,rfl,Q,S1⟩:=hcut;go_upto_if 185 with (fail)
      go_cut [] (fun wc=> ∃d1:Array α,Aside (SWK enc k w0 blk off d1 wc)∧Hid (Turned_ (ltOf cf) a hi mid e b d d1))
      case first=>
        as_aux_lemma=>
          cases q with
          | true =>
            have hr:=Q.out.1 rfl;have hcall:=rotate_w FS FR L enc g cb blk off cap hi m e d0 d w0 wc R hs S1.out hr.1 hr.2 (by omega) (by omega);clear S1 hr;go_wp2_with (go_at_fn 169;refine hcall.mono ?_;rintro e_ w1 ⟨rfl,d1,S2,X,Y⟩;have S3:Aside (SWK enc k w0 blk off d1 w1):=S2;have T:Hid (Turned_ (ltOf cf) a hi mid e b d d1):=turned_of hO (permIn_mono d d1 hi e a b (by omega) (by omega) (by omega) Y) X (by omega) (by omega) (by omega) (by omega) (by omega) SS.out.1 SS.out.2 IE.out.1 IE.out.2;clear X Y S2)
            go_meet
            case rel=>exact ⟨d1,S3,T⟩
          | false =>
            have hr: ¬(hi<m∧m<e):=fun h=>by have:=Q.out.2 h;simp at this
            have T:Hid (Turned_ (ltOf cf) a hi mid e b d d):=turned_of hO (permIn_refl _ _ _) (by
              by_cases q:hi=m
              · rw [q];exact rot_left _ _ _
              rw [show e=m by omega];exact rot_right _ _ _) (by omega) (by omega) (by omega) (by omega) (by omega) SS.out.1 SS.out.2 IE.out.1 IE.out.2
            clear hr;go_wp2
            go_meet
            case rel=>exact ⟨d,S1,T⟩
      case rest=>
        clear S1 IE;obtain ⟨d1,S1,T⟩:=hcut;clear Q;have hd1:d1.size=d.size:=T.out.perm.1;go_upto_region 41 with (fail)
        go_cut [199] (fun v wc=> ∃q:Bool,v= .bool q∧Hid (q=true↔(a<hi∧hi<mid))∧Aside (SWK enc k w0 blk off d1 wc))
        case first=>
          as_aux_lemma=>
            by_cases hr1:a<hi;rotate_left
            · have hr1z : ¬ (a : Int) < (hi : Int) := by omega
              go_wp2
              go_meet
              case rel=>exact ⟨false,rfl,(show Hid _ from (⟨fun h=>absurd h (by simp),fun h=>absurd h.1 hr1⟩:false=true↔(a<hi∧hi<mid))),S1⟩
            have hr1z:(a:Int)<(hi:Int):=by omega
            by_cases hr2:hi<mid
            · have hr2z : (hi : Int) < (mid : Int) := by omega
              go_wp2
              go_meet
              case rel=>exact ⟨true,rfl,(show Hid _ from (⟨fun _=>⟨hr1,hr2⟩,fun _=>rfl⟩:true=true↔(a<hi∧hi<mid))),S1⟩
            have hr2z: ¬(hi:Int)<(mid:Int):=by omega
            go_wp2
            go_meet
            case rel=>exact ⟨false,rfl,(show Hid _ from (⟨fun h=>absurd h (by simp),fun h=>absurd h.2 hr2⟩:false=true↔(a<hi∧hi<mid))),S1⟩
        case rest=>
        clear S1;obtain ⟨q,rfl,Q,S1⟩:=hcut;go_upto_if 199 with (fail)
        go_cut [] (fun wc=> ∃d2:Array α,Aside (SWK enc k w0 blk off d2 wc)∧Hid (SortedIn (ltOf cf) a mid d2∧PermIn a mid d1 d2))
        case first=>
          as_aux_lemma=>
            cases q with
            | true =>
              have hr:=Q.out.1 rfl;have hcall:SymR P enc cf k g cb blk off cap w0 a hi mid d1 wc:=IH.out a hi mid d1 wc (by omega) (by omega) S1.out hr.1 hr.2 (by omega) T.out.s1 T.out.s2;unfold SymR at hcall;rw [hd1] at hcall;clear S1 hr;go_wp2_with (go_at_fn 148;refine hcall.mono ?_;rintro e_ w1 ⟨rfl,d2,S2,X,Y⟩;have S3:Aside (SWK enc k w0 blk off d2 w1):=S2;have T2:Hid (SortedIn (ltOf cf) a mid d2∧PermIn a mid d1 d2):=(⟨X,Y⟩:_∧_);clear X Y S2)
              go_meet
              case rel=>exact ⟨d2,S3,T2⟩
            | false =>
              have hr: ¬(a<hi∧hi<mid):=fun h=>by have:=Q.out.2 h;simp at this
              have T2:Hid (SortedIn (ltOf cf) a mid d1∧PermIn a mid d1 d1):=(⟨sorted_whole T.out.s1 T.out.s2 hr,permIn_refl _ _ _⟩:_∧_);clear hr;go_wp2
              go_meet
              case rel=>exact ⟨d1,S1,T2⟩
        case rest=>
          clear S1 Q;obtain ⟨d2,S1,T2⟩:=hcut;have hd2:d2.size=d.size:=by rw [T2.out.2.1];exact hd1
          have s3:SortedIn (ltOf cf) mid e d2:=sorted_congr T.out.s3 (fun q h1 _=>T2.out.2.2.1 q (.inr h1));have s4:SortedIn (ltOf cf) e b d2:=sorted_congr T.out.s4 (fun q h1 _=>T2.out.2.2.1 q (.inr (by omega)));have S34:Hid (SortedIn (ltOf cf) mid e d2∧SortedIn (ltOf cf) e b d2):=(⟨s3,s4⟩:_∧_);clear s3 s4
          have fin: ∀d3,SortedIn (ltOf cf) mid b d3→PermIn mid b d2 d3→SortedIn (ltOf cf) a b d3∧PermIn a b d d3:=fun d3 q1 q2=>by
            obtain ⟨z1,z2⟩:=sym_join (by omega) (by omega) (by omega) T.out.x T2.out.2 T2.out.1 q2 q1;exact ⟨z1,permIn_trans _ _ _ _ _ T.out.perm z2⟩
          have FIN:Hid _:=fin;clear fin;by_cases hr:mid<e∧e<b
          · have hr1 : (mid : Int) < (e : Int) := by omega
            have hr2:(e:Int)<(b:Int):=by omega
            have hcall:SymR P enc cf k g cb blk off cap w0 mid e b d2 wc:=IH.out mid e b d2 wc (by omega) (by omega) S1.out hr.1 hr.2 (by omega) S34.out.1 S34.out.2
            unfold SymR at hcall
            rw [hd2] at hcall
            clear S1
            go_wp2_with (go_at_fn 148;refine hcall.mono ?_;rintro e_ w1 ⟨rfl,d3,S2,X,Y⟩;have S3:Aside (SWK enc k w0 blk off d3 w1):=S2;have T3:Hid (SortedIn (ltOf cf) mid b d3∧PermIn mid b d2 d3):=(⟨X,Y⟩:_∧_);clear X Y S2)
            go_end0
            exact ⟨rfl,d3,S3.out,FIN.out d3 T3.out.1 T3.out.2⟩
          have T3:Hid (SortedIn (ltOf cf) mid b d2):=sorted_whole S34.out.1 S34.out.2 hr;by_cases hr1:mid<e
          · have hr1z : (mid : Int) < (e : Int) := by omega
            have hr2z: ¬(e:Int)<(b:Int):=by omega
            go_wp2
            go_end0
            exact ⟨rfl,d2,S1.out,FIN.out d2 T3.out (permIn_refl _ _ _)⟩
          have hr1z: ¬(mid:Int)<(e:Int):=by omega
          go_wp2
          go_end0
          exact ⟨rfl,d2,S1.out,FIN.out d2 T3.out (permIn_refl _ _ _)⟩
theorem symMerge_w {P:Program} {α:Type} [Inhabited α] (FS:P.funcs[176]?=some Try.f176) (FR:P.funcs[169]?=some Try.f169) (F:P.funcs[148]?=some Try.f148) {k:Nat} (L:SortT P k) (enc:α→List Value) (cf:α→α→Int) (g:Nat) (cb:Array Value) (blk off cap:Nat) (d0:Array α) (w0:World)
    (eg: ∀args w,(callFunc g args).run P w= .ok (.enter g args) w) (hcmp:CmpLays P g cb enc k cf blk off d0.size w0) (R:RowK enc k w0 blk off d0) (hO:SWO (ltOf cf)) (hsz:d0.size<2305843009213693952): ∀N,SymN P enc cf k g cb blk off cap d0 w0 N
  |0=>fun a m b d w h1 _ _ h2 h3=>by omega
  | N + 1 => fun a m b d w hN hs S ham hmb hb sA sB => by
    by_cases c1:m=a+1
    · exact symMerge_one FS FR F L enc cf g cb blk off cap d0 w0 eg hcmp R hO hsz a m b d w c1 hs S ham hmb hb sA sB
    by_cases c2:b=m+1
    · exact symMerge_last FS FR F L enc cf g cb blk off cap d0 w0 eg hcmp R hO hsz a m b d w c1 c2 hs S ham hmb hb sA sB
    exact symMerge_big FS FR F L enc cf g cb blk off cap d0 w0 eg hcmp R hO hsz N (symMerge_w FS FR F L enc cf g cb blk off cap d0 w0 eg hcmp R hO hsz N) a m b d w hN c1 c2 hs S ham hmb hb sA sB
def InsN {α:Type} [Inhabited α] (P:Program) (enc:α→List Value) (cf:α→α→Int) (k g:Nat) (cb:Array Value) (blk off cap:Nat) (d0:Array α) (w0:World):Prop:=
  ∀ (a b : Nat) (d : Array α) (w : World), d0.size = d.size → SWK enc k w0 blk off d w → a ≤ b → b ≤ d.size →
    Calls P 147 #[.slice (some ⟨blk,off,none⟩) d.size cap, .int .i64 a, .int .i64 b, .func (.func g) #[] cb] w fun e w'=>e= .returned (.tuple #[])∧ ∃d',SWK enc k w0 blk off d' w'∧SortedIn (ltOf cf) a b d'∧PermIn a b d d'
set_option maxHeartbeats 8000000 in
set_option maxRecDepth 1000000 in
theorem stable_w {P:Program} {α:Type} [Inhabited α] (FI:P.funcs[147]?=some Try.f147) (FY:P.funcs[148]?=some Try.f148) (F:P.funcs[116]?=some Try.f116) {k:Nat} (L:SortT P k) (enc:α→List Value) (cf:α→α→Int) (g:Nat) (cb:Array Value) (blk off cap:Nat) (d0:Array α) (w0:World)
    (HI:InsN P enc cf k g cb blk off cap d0 w0) (HY: ∀N,SymN P enc cf k g cb blk off cap d0 w0 N) (hsz:d0.size<576460752303423488) (d:Array α) (w:World) (hs:d0.size=d.size) (S:SWK enc k w0 blk off d w):
    Calls P 116 #[.slice (some ⟨blk,off,none⟩) d.size cap, .int .i64 d.size, .func (.func g) #[] cb] w fun e w'=>e= .returned (.tuple #[])∧ ∃d',SWK enc k w0 blk off d' w'∧SortedIn (ltOf cf) 0 d.size d'∧PermIn 0 d.size d d':=by
  have mixed:=L.mixed;have t0:=L.t0;have a0:=L.a0;have z0:=L.z0;have v0:=L.v0;have t3:=L.t3;have a3:=L.a3;have z3:=L.z3;have v3:=L.v3;have t4:=L.t4;have a4:=L.a4;have z4:=L.z4;have v4:=L.v4;have t5:=L.t5;have a5:=L.a5;have z5:=L.z5;have v5:=L.v5;have t22:=L.t22;have a22:=L.a22;have z22:=L.z22;have v22:=L.v22;have t25:=L.t25;have a25:=L.a25;have z25:=L.z25;have v25:=L.v25;have aE:=L.aE;have zE:=L.zE;have u0:=run_underlying L.t0;have u3:=run_underlying L.t3;have u4:=run_underlying L.t4;have u5:=run_underlying L.t5;have u22:=run_underlying L.t22;have eI: ∀args w,(callFunc 147 args).run P w= .ok (.enter 147 args) w:=enters_of FI (by kernel_rfl) rfl;have eY: ∀args w,(callFunc 148 args).run P w= .ok (.enter 148 args) w:=enters_of FY (by kernel_rfl) rfl;have S0:Aside (SWK enc k w0 blk off d w):=S;have HII:Hid _:=HI;have HYY:Hid _:=HY;clear S HI HY;obtain ⟨n,hn⟩: ∃n,n=d.size:=⟨_,rfl⟩;rw [←hn];have HN:Hid (n=d.size):=hn;have hn1:n≤d.size∧d.size≤n:=by omega
  clear hn;go_enter F,Try.ntmps116;go_wp2
  go_loopg [7,8] (n+1) (fun kx s7 s8 wr=> ∃(t a:Nat) (dk:Array α),s7= .int .i64 a∧s8= .int .i64 ((a:Int)+20)∧a≤n∧n - a≤kx∧dk.size=n∧Aside (SWK enc k w0 blk off dk wr)∧Hid (a=t*20∧Upto (ltOf cf) 20 n t dk∧PermIn 0 n d dk))
  case atStart=>exact ⟨0,0,d,rfl,rfl,by omega,by omega,HN.out.symm,S0,(⟨by omega,fun c hc=>by omega,permIn_refl _ _ _⟩:_∧_∧_)⟩
  case round=>
    clear S0;obtain ⟨t,a,dk,rfl,rfl,han,hkx,hds,S1,HH⟩:=hrel;have HD:Hid (dk.size=n):=hds;have hd1:dk.size≤n∧n≤dk.size:=by omega
    clear hds;by_cases hlt:a+20≤n
    · have hltz : (a : Int) + 20 ≤ (n : Int) := by omega
      have hcall:=HII.out a (a+20) dk wr (by omega) S1.out (by omega) (by omega)
      rw [show ((a+20:Nat):Int)=(a:Int)+20 by omega,HD.out] at hcall
      clear S1
      go_wp2_with (go_at_fn 147;refine hcall.mono ?_;rintro e_ w1 ⟨rfl,d1,S2,X,Y⟩;have S3:Aside (SWK enc k w0 blk off d1 w1):=S2;have T:Hid (SortedIn (ltOf cf) a (a+20) d1∧PermIn a (a+20) dk d1):=(⟨X,Y⟩:_∧_);clear X Y S2)
      go_roundg (n - (a+20))
      case measure=>omega
      case rel=>
        have HH2:Hid (a+20=(t+1)*20∧Upto (ltOf cf) 20 n (t+1) d1∧PermIn 0 n d d1):=by
          obtain ⟨q1,q2,q3⟩:=HH.out;have e1:t*20=a:=q1.symm;have e2:min (t*20+20) n=a+20:=by omega
          show _∧_∧_
          exact ⟨by omega,upto_step q2 (by rw [e1,←e1,e2,e1];exact T.out.2) (by rw [e2,e1];exact T.out.1),part_perm q3 T.out.2 hlt (by omega)⟩
        exact ⟨t+1,a+20,d1,by rw [show ((a+20:Nat):Int)=(a:Int)+20 by omega],by rw [show ((a+20:Nat):Int)=(a:Int)+20 by omega],hlt,Nat.le_refl _,by rw [T.out.2.1];exact HD.out,S3,HH2⟩
    have hltz: ¬(a:Int)+20≤(n:Int):=by omega
    have hcall:=HII.out a n dk wr (by omega) S1.out (by omega) (by omega);rw [HD.out] at hcall;clear S1;go_wp2_with (go_at_fn 147;refine hcall.mono ?_;rintro e_ w1 ⟨rfl,d1,S2,X,Y⟩;have S3:Aside (SWK enc k w0 blk off d1 w1):=S2;have T:Hid (SortedIn (ltOf cf) a n d1∧PermIn a n dk d1):=(⟨X,Y⟩:_∧_);clear X Y S2)
    have HB:Hid (Blocks (ltOf cf) 20 n d1∧PermIn 0 n d d1∧d1.size=n):=by
      obtain ⟨q1,q2,q3⟩:=HH.out;have e1:t*20=a:=q1.symm;have e2:min (t*20+20) n=n:=by omega
      show _∧_∧_
      exact ⟨upto_all (upto_step q2 (by rw [e2,e1];exact T.out.2) (by rw [e2,e1];exact T.out.1)) (by omega),part_perm q3 T.out.2 (Nat.le_refl _) (by omega),by rw [T.out.2.1];exact HD.out⟩
    clear HH T HD hd1 hlt hltz;go_loopg [6] (n+1) (fun kx s6 wr2=> ∃(bs:Nat) (dk:Array α),s6= .int .i64 bs∧20≤bs∧bs≤2*n+20∧n - bs≤kx∧Aside (SWK enc k w0 blk off dk wr2)∧Hid (Blocks (ltOf cf) bs n dk∧PermIn 0 n d dk∧dk.size=n))
    case atStart=>exact ⟨20,d1,rfl,by omega,by omega,by omega,S3,HB⟩
    case round=>
      clear S3 HB;obtain ⟨bs,dk,rfl,hbs,hbs2,hkx2,S1,HB⟩:=hrel;by_cases hlt:bs<n;rotate_left
      · have hltz : ¬ (bs : Int) < (n : Int) := by omega
        go_wp2
        go_end0
        exact ⟨rfl,dk,S1.out,blocks_all HB.out.1 (by omega),HB.out.2.1⟩
      have hltz:(bs:Int)<(n:Int):=by omega
      go_wp2
      go_loopg [7,8] (n+1) (fun kx s7 s8 wr3=> ∃(t a:Nat) (dk:Array α),s7= .int .i64 a∧s8= .int .i64 ((a:Int)+2*(bs:Int))∧a≤n∧n - a≤kx∧Aside (SWK enc k w0 blk off dk wr3)∧Hid (a=t*(2*bs)∧Mixed (ltOf cf) bs n t dk∧PermIn 0 n d dk∧dk.size=n))
      case atStart=>exact ⟨0,0,dk,rfl,by simp,by omega,by omega,S1,(⟨by omega,mixed_zero HB.out.1,HB.out.2.1,HB.out.2.2⟩:_∧_∧_∧_)⟩
      case round=>
        clear S1 HB;obtain ⟨t,a,dk,rfl,rfl,han,hkx3,S1,HH⟩:=hrel;have hd1:dk.size≤n∧n≤dk.size:=by have:=HH.out.2.2.2;omega
        by_cases hle:a+2*bs≤n
        · have hlez : (a : Int) + 2 * (bs : Int) ≤ (n : Int) := by omega
          have hm:SortedIn (ltOf cf) a (a+bs) dk∧SortedIn (ltOf cf) (a+bs) (a+2*bs) dk:=by
            obtain ⟨q1,q2,_,_⟩:=HH.out;have q:=mixed_at q2;rw [←q1,Nat.min_eq_left (by omega),Nat.min_eq_left (by omega)] at q;exact q
          have hcall:SymR P enc cf k g cb blk off cap w0 a (a+bs) (a+2*bs) dk wr:=HYY.out _ a (a+bs) (a+2*bs) dk wr (Nat.le_refl _) (by omega) S1.out (by omega) (by omega) (by omega) hm.1 hm.2
          unfold SymR at hcall
          rw [show ((a+bs:Nat):Int)=(a:Int)+(bs:Int) by omega,show ((a+2*bs:Nat):Int)=(a:Int)+2*(bs:Int) by omega,HH.out.2.2.2] at hcall
          clear S1 hm
          go_wp2_with (go_at_fn 148;refine hcall.mono ?_;rintro e_ w1 ⟨rfl,d1,S2,X,Y⟩;have S3:Aside (SWK enc k w0 blk off d1 w1):=S2;have T:Hid (SortedIn (ltOf cf) a (a+2*bs) d1∧PermIn a (a+2*bs) dk d1):=(⟨X,Y⟩:_∧_);clear X Y S2)
          go_roundg (n - (a+2*bs))
          case measure=>omega
          case rel=>
            have HH2:Hid (a+2*bs=(t+1)*(2*bs)∧Mixed (ltOf cf) bs n (t+1) d1∧PermIn 0 n d d1∧d1.size=n):=by
              obtain ⟨q1,q2,q3,q4⟩:=HH.out;have e2:min (t*(2*bs)+2*bs) n=t*(2*bs)+2*bs:=by omega
              have T1:=T.out;rw [q1] at T1
              show _∧_∧_∧_
              exact ⟨by rw [Nat.add_mul,Nat.one_mul];omega,mixed_step q2 (by rw [e2];exact T1.2) (by rw [e2];exact T1.1),part_perm q3 T.out.2 hle (by omega),by rw [T.out.2.1];exact q4⟩
            exact ⟨t+1,a+2*bs,d1,by rw [show ((a+2*bs:Nat):Int)=(a:Int)+2*(bs:Int) by omega],by rw [show ((a+2*bs:Nat):Int)=(a:Int)+2*(bs:Int) by omega],hle,Nat.le_refl _,S3,HH2⟩
        have hlez: ¬(a:Int)+2*(bs:Int)≤(n:Int):=by omega
        by_cases hlm:a+bs<n;rotate_left
        · have hlmz : ¬ (a : Int) + (bs : Int) < (n : Int) := by omega
          go_wp2
          go_roundg (n - 2*bs)
          case measure=>omega
          case rel=>
            have HB2:Hid (Blocks (ltOf cf) (2*bs) n dk∧PermIn 0 n d dk∧dk.size=n):=(⟨mixed_end HH.out.2.1 (by have:=HH.out.1;omega),HH.out.2.2.1,HH.out.2.2.2⟩:_∧_∧_);exact ⟨2*bs,dk,by rw [show ((2*bs:Nat):Int)=(bs:Int)*2 by omega],by omega,by omega,Nat.le_refl _,S1,HB2⟩
        have hlmz:(a:Int)+(bs:Int)<(n:Int):=by omega
        have hm:SortedIn (ltOf cf) a (a+bs) dk∧SortedIn (ltOf cf) (a+bs) n dk:=by
          obtain ⟨q1,q2,_,_⟩:=HH.out;have q:=mixed_at q2;rw [←q1,Nat.min_eq_left (by omega),Nat.min_eq_right (by omega)] at q;exact q
        have hcall:SymR P enc cf k g cb blk off cap w0 a (a+bs) n dk wr:=HYY.out _ a (a+bs) n dk wr (Nat.le_refl _) (by omega) S1.out (by omega) (by omega) (by omega) hm.1 hm.2;unfold SymR at hcall;rw [show ((a+bs:Nat):Int)=(a:Int)+(bs:Int) by omega,HH.out.2.2.2] at hcall;clear S1 hm;go_wp2_with (go_at_fn 148;refine hcall.mono ?_;rintro e_ w1 ⟨rfl,d1,S2,X,Y⟩;have S3:Aside (SWK enc k w0 blk off d1 w1):=S2;have T:Hid (SortedIn (ltOf cf) a n d1∧PermIn a n dk d1):=(⟨X,Y⟩:_∧_);clear X Y S2)
        go_roundg (n - 2*bs)
        case measure=>omega
        case rel=>
          have HB2:Hid (Blocks (ltOf cf) (2*bs) n d1∧PermIn 0 n d d1∧d1.size=n):=by
            obtain ⟨q1,q2,q3,q4⟩:=HH.out;have e2:min (t*(2*bs)+2*bs) n=n:=by omega
            have T1:=T.out;rw [q1] at T1
            show _∧_∧_
            exact ⟨mixed_last (mixed_step q2 (by rw [e2];exact T1.2) (by rw [e2];exact T1.1)) (by omega),part_perm q3 T.out.2 (Nat.le_refl _) (by omega),by rw [T.out.2.1];exact q4⟩
          exact ⟨2*bs,d1,by rw [show ((2*bs:Nat):Int)=(bs:Int)*2 by omega],by omega,by omega,Nat.le_refl _,S3,HB2⟩
end Go.Proofs.Ytahidkjncljkaaa.Print

namespace Go.Proofs.Ytahidkjncljkaaa.Print
open Go.Shelf Go.RowKit Go.Lib Go.Sort
open Go.Proofs.YtahidkjncljkaaaW.PrintWords Go.Proofs.YtahidkjncljkaaaW.PrintLast Go.Proofs.YtahidkjncljkaaaW.PrintMore
def renS:Ren:=⟨fun n=>if n=20 then 147 else n,fun n=>match n with|0=>0|3=>3|4=>4|22=>22|24=>39|25=>121|m=>m,fun n=>n⟩
theorem laysIns:SlLaysF0.n20 Try.prog renS where
 mixed:=by kernel_rfl
 f20:=⟨ "slices.insertionSortCmpFunc[doorkeeper/api.Want]",by decide,by kernel_rfl⟩
 t0:=Try.underlying0
 a0:=Try.isAgg0
 z0:=Try.sizeOf0
 v0:=Try.zeroValue0
 t3:=Try.underlying3
 a3:=Try.isAgg3
 z3:=Try.sizeOf3
 v3:=Try.zeroValue3
 t4:=Try.underlying4
 a4:=Try.isAgg4
 z4:=Try.sizeOf4
 v4:=Try.zeroValue4
 t22:=Try.underlying22
 a22:=Try.isAgg22
 z22:=Try.sizeOf22
 v22:=Try.zeroValue22
 t25:=Try.underlying121
 a25:=Try.isAgg121
 z25:=Try.sizeOf121
 v25:=Try.zeroValue121
theorem sortT:SortT Try.prog 5 where
 mixed:=by kernel_rfl
 t0:=Try.underlying0
 a0:=Try.isAgg0
 z0:=Try.sizeOf0
 v0:=Try.zeroValue0
 t3:=Try.underlying3
 a3:=Try.isAgg3
 z3:=Try.sizeOf3
 v3:=Try.zeroValue3
 t4:=Try.underlying4
 a4:=Try.isAgg4
 z4:=Try.sizeOf4
 v4:=Try.zeroValue4
 t5:=Try.underlying207
 a5:=Try.isAgg207
 z5:=Try.sizeOf207
 v5:=Try.zeroValue207
 t22:=Try.underlying22
 a22:=Try.isAgg22
 z22:=Try.sizeOf22
 v22:=Try.zeroValue22
 t25:=Try.underlying121
 a25:=Try.isAgg121
 z25:=Try.sizeOf121
 v25:=Try.zeroValue121
 aE:=Try.isAgg39
 zE:=Try.sizeOf39
abbrev SW_:={w:Want // w.f0.size≤maxLen}
instance:Inhabited SW_:=⟨⟨zWant,Nat.zero_le _⟩⟩
def encW (x:SW_):List Value:=[.string x.1.f0, .string x.1.f1, .int .i64 x.1.f2.f0, .int .i64 x.1.f2.f1, .int .i64 x.1.f2.f2]
def cfW (f:ByteArray→Int) (x y:SW_):Int:=cmpW f x.1.f0 y.1.f0
theorem cmpI_neg {x y:Int}:cmpI x y<0↔x<y:=by
  unfold cmpI;by_cases h1:x<y
  · simp [h1]
  by_cases h2:y<x<;>simp [h1,h2]
theorem cmpI_zero {x y:Int}:cmpI x y=0↔x=y:=by
  unfold cmpI;by_cases h1:x<y
  · simp [h1];omega
  by_cases h2:y<x
  · simp [h1,h2];omega
  simp [h1,h2];omega
theorem cmpS_neg {x y:ByteArray}:cmpS x y<0↔lt x y=true:=by
  unfold cmpS;by_cases h1:lt x y=true
  · simp [h1]
  by_cases h2:lt y x=true<;>simp [h1,h2]
theorem cmpW_neg {f:ByteArray→Int} {x y:ByteArray}:cmpW f x y<0↔f x<f y∨(f x=f y∧lt x y=true):=by
  unfold cmpW orI;by_cases h:cmpI (f x) (f y)=0
  · rw [if_pos h, cmpS_neg]
    have:=cmpI_zero.1 h
    constructor
    · exact fun q=> .inr ⟨this,q⟩
    rintro (q|q)
    · omega
    exact q.2
  rw [if_neg h,cmpI_neg];have:f x≠f y:=fun q=>h (cmpI_zero.2 q)
  constructor
  · exact fun q=> .inl q
  rintro (q|q)
  · exact q
  exact absurd q.1 this
theorem ltOf_W {f:ByteArray→Int} {x y:SW_}:ltOf (cfW f) x y=true↔f x.1.f0<f y.1.f0∨(f x.1.f0=f y.1.f0∧lt x.1.f0 y.1.f0=true):=by
 unfold ltOf cfW;rw [decide_eq_true_iff,cmpW_neg]
theorem ltOf_Wf {f:ByteArray→Int} {x y:SW_}:ltOf (cfW f) x y=false↔f y.1.f0<f x.1.f0∨(f x.1.f0=f y.1.f0∧lt x.1.f0 y.1.f0=false):=by
  rw [←Bool.not_eq_true,ltOf_W]
  constructor
  · intro h
    by_cases e:f x.1.f0=f y.1.f0
    · exact .inr ⟨e,by rw [←Bool.not_eq_true];exact fun q=>h (.inr ⟨e,q⟩)⟩
    exact .inl (by have: ¬f x.1.f0<f y.1.f0:=fun q=>h (.inl q);omega)
  rintro (h|⟨h,h'⟩) (k|⟨k,k'⟩)
  · omega
  · omega
  · omega
  rw [h'] at k';cases k'
theorem lt_ntrans {a b c:ByteArray} (h:lt a b=false) (k:lt b c=false):lt a c=false:=by
  cases q:lt a c with
  |false=>rfl
  | true =>
    by_cases e:b=c
    · rw [e,q] at h;cases h
    have:=lt_trans q (lt_total k e)
    rw [h] at this;cases this
theorem swoW (f:ByteArray→Int):SWO (ltOf (cfW f)) where
  irrefl x:=ltOf_Wf.2 (.inr ⟨rfl,lt_irrefl _⟩)
  trans x y z h k:=by
    rw [ltOf_W] at h k ⊢
    rcases h with h|⟨h,h'⟩<;>rcases k with k|⟨k,k'⟩
    · exact .inl (by omega)
    · exact .inl (by omega)
    · exact .inl (by omega)
    exact .inr ⟨by omega,lt_trans h' k'⟩
  ntrans x y z h k:=by
    rw [ltOf_Wf] at h k ⊢
    rcases h with h|⟨h,h'⟩<;>rcases k with k|⟨k,k'⟩
    · exact .inl (by omega)
    · exact .inl (by omega)
    · exact .inl (by omega)
    exact .inr ⟨by omega,lt_ntrans h' k'⟩
theorem sortWorld_block {α:Type} [Inhabited α] (enc:α→List Value) (k:Nat) (w:World) (blk off m:Nat) (dk:Array α) (os:Array Obj) {g:Nat} (hg:g<w.heap.size) (hne:g≠blk):(sortWorldK enc k w blk off m dk os).heap[g]?=w.heap[g]?:=by
 show ((w.heap.modify blk _)++os)[g]?=_
 rw [Array.getElem?_append_left (by simpa using hg),Array.getElem?_modify,if_neg (fun e=>hne e.symm)]
theorem sortWorld_own {α:Type} [Inhabited α] (enc:α→List Value) (k:Nat) (w:World) (blk off m:Nat) (dk:Array α) (os:Array Obj) {c:Array Value} {e:TypeId} {fr:Nat×Nat} (h:w.heap[blk]?=some (.cells c e fr)):(sortWorldK enc k w blk off m dk os).heap[blk]?=some (.cells (putCells id off (flatK enc k dk) c) e fr):=by
 have hl:blk<w.heap.size:=(Array.getElem?_eq_some_iff.1 h).1
 show ((w.heap.modify blk _)++os)[blk]?=_
 rw [Array.getElem?_append_left (by simpa using hl),Array.getElem?_modify,if_pos rfl,h]
 rfl
theorem sortWorld_grown {α:Type} [Inhabited α] (enc:α→List Value) (k:Nat) (w:World) (blk off m:Nat) (dk:Array α) (os:Array Obj):w.grownBy (sortWorldK enc k w blk off m dk os) (some blk) where
 os:=rfl
 tape:=rfl
 output:=rfl
 size:=by
  show w.heap.size≤((w.heap.modify blk _)++os).size
  simp
 block:=fun g hg hne=>sortWorld_block enc k w blk off m dk os hg (fun e=>hne (by rw [e]))
theorem cmpLaysW (f:ByteArray→Int) {w0:World} {gd b mb n:Nat} {v0:Value} (hgd:w0.heap[gd]?=some (.cells #[.pointer (some ⟨b,0,none⟩)] 108 (0,0))) (hb:w0.heap[b]?=some (.cells #[v0, .map (some mb)] 113 (0,0))) (hm:MapAt w0 mb n f) {blk:Nat} (h1:gd≠blk) (h2:b≠blk) (h3:mb≠blk) (off size:Nat):
    CmpLays Try.prog 79 #[.pointer (some ⟨gd,0,none⟩)] encW 5 (cfW f) blk off size w0:=by
  intro m os dk _ x y;refine wantTop1_calls (sortWorldK encW 5 w0 blk off m dk os) gd b mb n v0 f ?_ ?_ ?_ x.1 y.1 x.2 y.2
  · rw [sortWorld_block _ _ _ _ _ _ _ _ (blk_lt hgd) h1];exact hgd
  · rw [sortWorld_block _ _ _ _ _ _ _ _ (blk_lt hb) h2];exact hb
  exact hm.kept (sortWorld_block _ _ _ _ _ _ _ _ hm.lt h3)
theorem encW_len (x:SW_):(encW x).length=5:=rfl
theorem encW_one (x:SW_): ∀v∈encW x,v.oneCell'=true:=by
 intro v hv;simp only [encW,List.mem_cons,List.not_mem_nil,or_false] at hv
 rcases hv with rfl|rfl|rfl|rfl|rfl<;>rfl
theorem sortTS:SortTS Try.prog where
 mixed:=by kernel_rfl
 t0:=Try.underlying0
 a0:=Try.isAgg0
 z0:=Try.sizeOf0
 v0:=Try.zeroValue0
 t3:=Try.underlying3
 a3:=Try.isAgg3
 z3:=Try.sizeOf3
 v3:=Try.zeroValue3
 t4:=Try.underlying4
 a4:=Try.isAgg4
 z4:=Try.sizeOf4
 v4:=Try.zeroValue4
 t5:=Try.underlying207
 a5:=Try.isAgg207
 z5:=Try.sizeOf207
 v5:=Try.zeroValue207
 t22:=Try.underlying85
 a22:=Try.isAgg85
 z22:=Try.sizeOf85
 v22:=Try.zeroValue85
 t25:=Try.underlying120
 a25:=Try.isAgg120
 z25:=Try.sizeOf120
 v25:=Try.zeroValue120
 tE:=Try.underlying9
 aE:=Try.isAgg9
 zE:=Try.sizeOf9
 vE:=Try.zeroValue9
theorem ltOf_S {f:ByteArray→Int} {x y:ByteArray}:ltOf (cmpW f) x y=true↔f x<f y∨(f x=f y∧lt x y=true):=by
 unfold ltOf;rw [decide_eq_true_iff,cmpW_neg]
theorem ltOf_Sf {f:ByteArray→Int} {x y:ByteArray}:ltOf (cmpW f) x y=false↔f y<f x∨(f x=f y∧lt x y=false):=by
  rw [←Bool.not_eq_true,ltOf_S]
  constructor
  · intro h
    by_cases e:f x=f y
    · exact .inr ⟨e,by rw [←Bool.not_eq_true];exact fun q=>h (.inr ⟨e,q⟩)⟩
    exact .inl (by have: ¬f x<f y:=fun q=>h (.inl q);omega)
  rintro (h|⟨h,h'⟩) (k|⟨k,k'⟩)
  · omega
  · omega
  · omega
  rw [h'] at k';cases k'
theorem swoS (f:ByteArray→Int):SWO (ltOf (cmpW f)) where
  irrefl x:=ltOf_Sf.2 (.inr ⟨rfl,lt_irrefl _⟩)
  trans x y z h k:=by
    rw [ltOf_S] at h k ⊢
    rcases h with h|⟨h,h'⟩<;>rcases k with k|⟨k,k'⟩
    · exact .inl (by omega)
    · exact .inl (by omega)
    · exact .inl (by omega)
    exact .inr ⟨by omega,lt_trans h' k'⟩
  ntrans x y z h k:=by
    rw [ltOf_Sf] at h k ⊢
    rcases h with h|⟨h,h'⟩<;>rcases k with k|⟨k,k'⟩
    · exact .inl (by omega)
    · exact .inl (by omega)
    · exact .inl (by omega)
    exact .inr ⟨by omega,lt_ntrans h' k'⟩
theorem ownS {w:World} {base:Nat} {v:Value} {l:List ByteArray} (h:Kd.R Kd.string 9 w base (fun _=>True) v l):(v= .slice none 0 0∧l=[])∨ ∃g cap cur,v= .slice (some ⟨g,0,none⟩) l.length cap∧base≤g∧w.heap[g]?=some (Obj.cells cur 9 (0,0))∧l.length≤cap∧cap≤maxLen∧cur.size=cap∧cur.toList.take l.length=l.map Value.string:=by
  have ho:=Kd.own_of_R h;obtain ⟨h1,h2⟩:=ho
  rcases h2 with ⟨rfl,h2⟩|⟨g,cap,cur,rfl,hg,hh,hc,hm,hs,ht⟩
  · exact .inl ⟨rfl,List.length_eq_zero_iff.1 h2⟩
  rw [Nat.mul_one] at hs ht;exact .inr ⟨g,cap,cur,rfl,hg,hh,hc,hm,hs,ht⟩
theorem sortedS {w0 w:World} {base g cap:Nat} {d:Array ByteArray} (S:SRow w0 g cap d w) (hg:base≤g) (hc:d.size≤cap) (hm:cap≤maxLen):Kd.R Kd.string 9 w base (fun _=>True) (.slice (some ⟨g,0,none⟩) d.size cap) d.toList:=by
 obtain ⟨cur,hh,hs,ht⟩:=S.row;refine Kd.R_of_own ⟨by simp [encs], .inr ⟨g,cap,cur,by rw [Array.length_toList],hg,hh,by rw [Array.length_toList];exact hc,hm,by rw [Nat.mul_one];exact hs, ?_⟩⟩ (fun _ _=>trivial);rw [Nat.mul_one,Array.length_toList];exact ht
set_option maxRecDepth 100000 in
theorem insNilS_calls (c:Nat) (fv:Value) (w:World):Calls Try.prog 170 #[.slice none 0 c, .int .i64 0, .int .i64 0,fv] w fun e w'=>e= .returned (.tuple #[])∧w'=w:=by
 go_enter Try.func170,Try.ntmps170;go_wp2
 refine wp_loop_rounds 1 ?_;rw [rounds_succ];go_wp2
 go_end0
 exact ⟨rfl,rfl⟩
set_option maxRecDepth 100000 in
theorem stableNilS_calls (c:Nat) (fv:Value) (w:World):Calls Try.prog 152 #[.slice none 0 c, .int .i64 0,fv] w fun e w'=>e= .returned (.tuple #[])∧w'=w:=by
 go_enter Try.func152,Try.ntmps152;go_wp2
 refine wp_loop_rounds 1 ?_;rw [rounds_succ];go_wp2_with (go_at_call 170;refine (insNilS_calls _ _ _).mono ?_;rintro e w1 ⟨rfl,rfl⟩)
 refine wp_loop_rounds 1 ?_;rw [rounds_succ];go_wp2
 go_end0
 exact ⟨rfl,rfl⟩
set_option maxHeartbeats 1000000 in
set_option maxRecDepth 100000 in
theorem sortNames_calls {w W:World} {gl:Nat} {Al:Option Addr} {cl:Nat} {l:List Item} (hC:Kd.C k79 w Al l.length l) (hcl:l.length≤cl) (hll:l.length<1000000) (hB:Below w.heap.size w W) (hgl:W.heap[gl]?=some (Obj.cells #[.slice Al l.length cl] 46 (0,0))) {v:Value} {ns:List ByteArray} (hR:Kd.R Kd.string 9 W w.heap.size (fun _=>True) v ns) (hn:ns.length≤100000):
    Calls Try.prog 130 #[v, .func (.func 131) #[] #[.pointer (some ⟨gl,0,none⟩)]] W fun e w'=>e= .returned (.tuple #[])∧ ∃ns',Kd.R Kd.string 9 w' w.heap.size (fun _=>True) v ns'∧ns'.Perm ns∧ns'.Pairwise (fun x y=> ¬cmpW (depN l) y x<0)∧W.grownBy w' v.ownBlock:=by
  rcases ownS hR with ⟨rfl,rfl⟩|⟨g,cap,cur,rfl,hg,hh,hc,hcm,hcs,hflat⟩
  · have HR := Aside0.mk hR
    go_enter Try.func130,Try.ntmps130
    go_wp2_with (go_at_call 152;refine (stableNilS_calls _ _ _).mono ?_;rintro e w1 ⟨rfl,rfl⟩)
    go_end0
    exact ⟨rfl,[],HR.out, .refl _, .nil,⟨rfl,rfl,rfl,Nat.le_refl _,fun _ _ _=>rfl⟩⟩
  obtain ⟨d,hd⟩: ∃d:Array ByteArray,d.toList=ns:=⟨ns.toArray,rfl⟩;have hds:d.size=ns.length:=by rw [←hd,Array.length_toList]
  have S0:SRow W g cap d W:=⟨⟨rfl,rfl,rfl,Nat.le_refl _,fun _ _ _=>rfl⟩,cur,hh,hcs,by rw [hds,hd];exact hflat⟩;have R:g<W.heap.size:=blk_lt hh
  have hcmp:CmpS Try.prog 131 #[.pointer (some ⟨gl,0,none⟩)] (cmpW (depN l)) W g cap d.size:=fun d' w' _ S x y=>by
    have hb:Below w.heap.size w w':=pw_below_grown hB (some g) hB.size S.gb (fun k e=>by cases e;exact hg);have hne:gl≠g:=by rintro rfl;rw [hgl] at hh;simp at hh
    exact dropCmp_calls w' gl Al cl l (Kd.C_below hC hb) hcl hll (blk_put_other2 hgl S.gb (fun e=>hne (Option.some.inj e))) x y
  have eg: ∀args w,(callFunc 131 args).run Try.prog w= .ok (.enter 131 args) w:=enters_of Try.func131 (by kernel_rfl) rfl;have hI:=ins_s Try.func170 sortTS (cmpW (depN l)) 131 #[.pointer (some ⟨gl,0,none⟩)] g cap d W eg hcmp R (swoS _) (by omega);have hY:=symMerge_s Try.func179 Try.func177 Try.func171 sortTS (cmpW (depN l)) 131 #[.pointer (some ⟨gl,0,none⟩)] g cap d W eg hcmp R (swoS _) (by omega);have key:=stable_s Try.func170 Try.func171 Try.func152 sortTS (cmpW (depN l)) 131 #[.pointer (some ⟨gl,0,none⟩)] g cap d W hI hY (by omega) d W rfl S0;rw [hds] at key
  have fin: ∀d':Array ByteArray,∀w',SRow W g cap d' w'→SortedIn (ltOf (cmpW (depN l))) 0 ns.length d'→PermIn 0 ns.length d d'→ ∃ns',Kd.R Kd.string 9 w' w.heap.size (fun _=>True) (.slice (some ⟨g,0,none⟩) ns.length cap) ns'∧ns'.Perm ns∧ns'.Pairwise (fun x y=> ¬cmpW (depN l) y x<0)∧W.grownBy w' (some g):=by
    intro d' w' S hso hp;have hd':=hp.1;have r:=sortedS S hg (by omega) hcm;rw [hd',hds] at r;refine ⟨_,r, ?_, ?_,S.gb⟩
    · have q := hp.2.2
      rw [show d'.extract 0 ns.length=d' by rw [←hds,←hd'];exact Array.extract_size,show d.extract 0 ns.length=d by rw [←hds];exact Array.extract_size,hd] at q
      exact q
    rw [List.pairwise_iff_getElem];intro i j hi hj hij;rw [Array.length_toList] at hi hj;have q:=hso i j (Nat.zero_le _) hij (by omega);rw [getElem!_pos d' i hi,getElem!_pos d' j hj] at q;unfold ltOf at q;rw [decide_eq_false_iff_not] at q;exact q
  have FIN:=Aside0.mk fin;clear fin hI hY hcmp R eg hgl hR hh hflat hd S0 hC hB;go_enter Try.func130,Try.ntmps130;go_wp2_with (go_at_call 152;refine key.mono ?_;rintro e w1 ⟨rfl,d',S,X,Y⟩;have T:=am_ (FIN.out d' w1 S X Y);clear S X Y)
  go_end0
  obtain ⟨l',h1,h2,h3,h4⟩:=T.out;exact ⟨rfl,l',h1,h2,h3,by simpa [Value.ownBlock] using h4⟩
end Go.Proofs.Ytahidkjncljkaaa.Print

namespace Go.Proofs.Ytahidkjncljkaaa.Print
open Go.RowKit Go.Shelf Go.Proofs.YtahidkjncljkaaaW.PrintWords Go.Proofs.YtahidkjncljkaaaW.PrintLast Go.Proofs.YtahidkjncljkaaaW.PrintMore
theorem fidx_anyG {α:Type} (p:α→Bool): ∀(l:List α) (i:Int),0≤i→decide (0≤fidx p l i)=l.any p
  |[],_,_=>rfl
  | x :: l, i, h => by
    unfold fidx
    rw [List.any_cons]
    by_cases hx:p x=true
    · rw [if_pos hx,hx];simpa using h
    rw [if_neg hx,fidx_anyG p l (i+1) (by omega)]
    simp [hx]
def markCells (x:S84):List Value:=[.string x.f0, .string x.f1, .int .i64 x.f2.f0, .int .i64 x.f2.f1, .int .i64 x.f2.f2, .int .i64 x.f3]
set_option maxHeartbeats 1000000 in
set_option maxRecDepth 100000 in
theorem dropHas_calls (W:World) (gm:Nat) (m:S84) (y:PGoal) (hm:W.heap[gm]?=some (.cells (markCells m).toArray 84 (0,0))):
  Calls Try.prog 129 #[.agg (goalCells y).toArray, .pointer (some ⟨gm,0,none⟩)] W fun e w'=>e= .returned (.bool (y.f0.f0.toList==m.f0.toList))∧Below W.heap.size W w':=by
 have hu141:=Try.underlying141;have hu39:=Try.underlying39;have hu84:=Try.underlying84;have HM:=Aside0.mk hm;clear hm;go_enter Try.func129,Try.ntmps129;go_wp2_with (first|((with_reducible refine gate_dst (N:=2) rfl ?_);refine box_event ?hg (N:=2) ?hd (cs:=(goalCells y).toArray) (t:=141) ?hr ?_;(case hd=>rfl);(case hg=>rfl);(case hr=>first|(go_simp;done)|(go_simp;rfl));intro gb2 hg w1 hbox hb;have HB:=Aside0.mk hb;have c0:w1.cell? ⟨gb2,0,none⟩=some (.string y.f0.f0):=(blk_cell hbox 0).trans rfl;have c1:w1.cell? ⟨gm,0,none⟩=some (.string m.f0):=(blk_cell (blk_below HM.out hb) 0).trans rfl;clear hb hbox hg))
 go_ret
 exact ⟨rfl,HB.out⟩
set_option maxHeartbeats 1000000 in
set_option maxRecDepth 100000 in
theorem stepsHas_calls (W:World) (gw:Nat) (x:S39) (m:S84) (hw:W.heap[gw]?=some (.cells #[.string x.f0, .string x.f1, .int .i64 x.f2.f0, .int .i64 x.f2.f1, .int .i64 x.f2.f2] 39 (0,0))):
  Calls Try.prog 93 #[.agg (markCells m).toArray, .pointer (some ⟨gw,0,none⟩)] W fun e w'=>e= .returned (.bool (m.f0.toList==x.f0.toList))∧Below W.heap.size W w':=by
 have hu39:=Try.underlying39;have hu84:=Try.underlying84;have HW:=Aside0.mk hw;clear hw;go_enter Try.func93,Try.ntmps93;go_wp2_with (first|((with_reducible refine gate_dst (N:=2) rfl ?_);refine box_event ?hg (N:=2) ?hd (cs:=(markCells m).toArray) (t:=84) ?hr ?_;(case hd=>rfl);(case hg=>rfl);(case hr=>first|(go_simp;done)|(go_simp;rfl));intro gb2 hg w1 hbox hb;have HB:=Aside0.mk hb;have c0:w1.cell? ⟨gb2,0,none⟩=some (.string m.f0):=(blk_cell hbox 0).trans rfl;have c1:w1.cell? ⟨gw,0,none⟩=some (.string x.f0):=(blk_cell (blk_below HW.out hb) 0).trans rfl;clear hb hbox hg))
 go_ret
 exact ⟨rfl,HB.out⟩
set_option maxHeartbeats 1000000 in
set_option maxRecDepth 100000 in
theorem idxMark_calls (g:Nat) (lb:Array Value) (p:S84→Bool) (eg: ∀args w,(callFunc g args).run Try.prog w= .ok (.enter g args) w) (w:World)
    (hp: ∀W x,Below w.heap.size w W→Calls Try.prog g (#[.agg (markCells x).toArray]++lb) W fun e w'=>e= .returned (.bool (p x))∧Below W.heap.size W w')
    (A:Option Addr) (c:Nat) (l:List S84) (hr0:Kd.C k84 w A l.length l) (hc0:l.length≤c):
    Calls Try.prog 123 #[.slice A l.length c, .func (.func g) #[] lb] w fun e w'=>e= .returned (.int .i64 (fidx p l 0))∧Below w.heap.size w w':=by
  have hu84:=Try.underlying84;have HR0:=Aside0.mk hr0;have HP:=Aside0.mk hp;have HEG:=Aside0.mk eg;have hm:l.length≤9223372036854775807:=hr0.2.1;clear hr0 hp eg;go_enter Try.func123,Try.ntmps123;go_wp2
  go_loopg [5,8] l.length (fun kq s5 s8 wr=> ∃i:Nat,i≤l.length∧l.length - i≤kq∧s8= .int .i64 i∧Aside0 (Below w.heap.size w wr)∧Aside0 (fidx p l 0=fidx p (l.drop i) i))
  case atStart=>exact ⟨0,by omega,by omega,rfl,⟨Below.refl _ _⟩,⟨rfl⟩⟩
  case round=>
    obtain ⟨i,hi,hg,rfl,HB,HF⟩:=hrel;by_cases hlt:i<l.length;rotate_left
    · obtain rfl : i = l.length := by omega
      go_wp2
      go_ret
      refine ⟨?_,HB.out⟩
      rw [HF.out,List.drop_length]
      rfl
    have hltz:(i:Int)<(l.length:Int):=by omega
    obtain ⟨ad,e1,h0,h1,h2,h3,h4,h5⟩:=at_T84 HR0.out (i:Int) (by omega) (by omega);cases e1;simp only [Int.toNat_natCast] at h0 h1 h2 h3 h4 h5;replace h0:=zx_ HB h0;replace h1:=zx_ HB h1;replace h2:=zx_ HB h2;replace h3:=zx_ HB h3;replace h4:=zx_ HB h4;replace h5:=zx_ HB h5;have hd:Aside0 _:=⟨fidx_drop p z84 l i hlt⟩;have HC:=am_ (HP.out wr (rd_T84 l i) HB.out);generalize hy:rd_T84 l i=y at h0 h1 h2 h3 h4 h5 HC;have hq:p (l.getD i z84)=p y:=by rw [←hy];simp [rd_T84]
    have HQ:=Aside0.mk hq;clear hy hq;have eg:=HEG.out;unfold markCells at HC
    cases hb:p y with
    | true =>
      rw [hb] at HC HQ;clear hb;go_wp2_with (go_at_fn g;refine HC.out.mono ?_;rintro e w' ⟨rfl,hb'⟩;have HB':=am_ (below_step HB.out hb');clear hb')
      go_ret
      refine ⟨?_,HB'.out⟩;rw [HF.out,hd.out,HQ.out]
      rfl
    | false =>
      rw [hb] at HC HQ;clear hb;go_wp2_with (go_at_fn g;refine HC.out.mono ?_;rintro e w' ⟨rfl,hb'⟩;have HB':=am_ (below_step HB.out hb');clear hb')
      go_roundg (l.length - (i+1))
      case measure=>omega
      case rel=>exact ⟨i+1,by omega,by omega,by go_num,HB',⟨by rw [HF.out,hd.out,HQ.out];rfl⟩⟩
set_option maxHeartbeats 1000000 in
set_option maxRecDepth 100000 in
theorem hasMark_calls (g:Nat) (lb:Array Value) (p:S84→Bool) (eg: ∀args w,(callFunc g args).run Try.prog w= .ok (.enter g args) w) (w:World)
  (hp: ∀W x,Below w.heap.size w W→Calls Try.prog g (#[.agg (markCells x).toArray]++lb) W fun e w'=>e= .returned (.bool (p x))∧Below W.heap.size W w')
  (A:Option Addr) (c:Nat) (l:List S84) (hr0:Kd.C k84 w A l.length l) (hc0:l.length≤c):
  Calls Try.prog 92 #[.slice A l.length c, .func (.func g) #[] lb] w fun e w'=>e= .returned (.bool (l.any p))∧Below w.heap.size w w':=by
 have HC:=am_ (idxMark_calls g lb p eg w hp A c l hr0 hc0);rw [←fidx_anyG p l 0 (by omega)];generalize fidx p l 0=r at HC;clear hp hr0 eg;go_enter Try.func92,Try.ntmps92;go_wp2_with (go_at_call 123;refine HC.out.mono ?_;rintro e w' ⟨rfl,hb'⟩;have HB':=Aside0.mk hb';clear hb')
 go_ret
 exact ⟨rfl,HB'.out⟩
set_option maxHeartbeats 1000000 in
set_option maxRecDepth 100000 in
theorem idxGoal_calls (g:Nat) (lb:Array Value) (p:PGoal→Bool) (eg: ∀args w,(callFunc g args).run Try.prog w= .ok (.enter g args) w) (w:World) (base:Nat)
    (hp: ∀W x,Below w.heap.size w W→Calls Try.prog g (#[.agg (goalCells x).toArray]++lb) W fun e w'=>e= .returned (.bool (p x))∧Below W.heap.size W w')
    (A:Option Addr) (c:Nat) (l:List PGoal) (hr0:Kd.R k141 141 w base (fun _=>True) (.slice A l.length c) l) (hl:l.length<1000000):
    Calls Try.prog 151 #[.slice A l.length c, .func (.func g) #[] lb] w fun e w'=>e= .returned (.int .i64 (fidx p l 0))∧Below w.heap.size w w':=by
  have hu141:=Try.underlying141;have HR0:=Aside0.mk hr0;have HP:=Aside0.mk hp;have HEG:=Aside0.mk eg;clear hr0 hp eg;go_enter Try.func151,Try.ntmps151;go_wp2
  go_loopg [5,8] l.length (fun kq s5 s8 wr=> ∃i:Nat,i≤l.length∧l.length - i≤kq∧s8= .int .i64 i∧Aside0 (Below w.heap.size w wr)∧Aside0 (fidx p l 0=fidx p (l.drop i) i))
  case atStart=>exact ⟨0,by omega,by omega,rfl,⟨Below.refl _ _⟩,⟨rfl⟩⟩
  case round=>
    obtain ⟨i,hi,hg,rfl,HB,HF⟩:=hrel;by_cases hlt:i<l.length;rotate_left
    · obtain rfl : i = l.length := by omega
      go_wp2
      go_ret
      refine ⟨?_,HB.out⟩
      rw [HF.out,List.drop_length]
      rfl
    have hltz:(i:Int)<(l.length:Int):=by omega
    have q0:(0:Int)≤(i:Int):=by omega
    obtain ⟨gg,cg',hv, -, -, -⟩:=Kd.R_form HR0.out (by omega)
    obtain ⟨rfl,rfl⟩:A=some ⟨gg,0,none⟩∧c=cg':=by
      injection hv with e1 e2 e3;exact ⟨e1,e3⟩
    clear hv;obtain ⟨y,hy⟩: ∃y,l[i]=y:=⟨_,rfl⟩
    have HG2:Kd.R k141 141 wr base (fun _=>True) (.slice (some ⟨gg,0,none⟩) l.length c) (l.take i++y::l.drop (i+1)):=by
      rw [←hy,←goal_split hlt];exact Kd.R_below HR0.out HB.out
    have LD:=am_ (fun j v hv=>goal_cell (show (l.take i).length=i by rw [List.length_take];omega) HG2 j (u:=v) hv);have hd:Aside0 _:=⟨fidx_drop p z141 l i hlt⟩;have HC:=am_ (HP.out wr y HB.out);have hq:p (l.getD i z141)=p y:=by rw [←hy];simp [hlt]
    have HQ:=Aside0.mk hq;clear hy hq HG2;have eg:=HEG.out
    cases hb:p y with
    | true =>
      rw [hb] at HC HQ;clear hb;go_wp2_with (first|((with_reducible refine gate_dst (N:=15) rfl ?_);refine load_at (goalCells y) rfl (.tmp 14) rfl (g:=gg) (off:=i*21) rfl _ hu141 rfl goalCells_info LD.out ?_)|(go_at_fn g;refine HC.out.mono ?_;rintro e w' ⟨rfl,hb'⟩;have HB':=am_ (below_step HB.out hb');clear hb'))
      go_ret
      refine ⟨?_,HB'.out⟩;rw [HF.out,hd.out,HQ.out]
      rfl
    | false =>
      rw [hb] at HC HQ;clear hb;go_wp2_with (first|((with_reducible refine gate_dst (N:=15) rfl ?_);refine load_at (goalCells y) rfl (.tmp 14) rfl (g:=gg) (off:=i*21) rfl _ hu141 rfl goalCells_info LD.out ?_)|(go_at_fn g;refine HC.out.mono ?_;rintro e w' ⟨rfl,hb'⟩;have HB':=am_ (below_step HB.out hb');clear hb'))
      go_roundg (l.length - (i+1))
      case measure=>omega
      case rel=>exact ⟨i+1,by omega,by omega,by go_num,HB',⟨by rw [HF.out,hd.out,HQ.out];rfl⟩⟩
set_option maxHeartbeats 1000000 in
set_option maxRecDepth 100000 in
theorem hasGoal_calls (g:Nat) (lb:Array Value) (p:PGoal→Bool) (eg: ∀args w,(callFunc g args).run Try.prog w= .ok (.enter g args) w) (w:World) (base:Nat)
  (hp: ∀W x,Below w.heap.size w W→Calls Try.prog g (#[.agg (goalCells x).toArray]++lb) W fun e w'=>e= .returned (.bool (p x))∧Below W.heap.size W w')
  (A:Option Addr) (c:Nat) (l:List PGoal) (hr0:Kd.R k141 141 w base (fun _=>True) (.slice A l.length c) l) (hl:l.length<1000000):
  Calls Try.prog 128 #[.slice A l.length c, .func (.func g) #[] lb] w fun e w'=>e= .returned (.bool (l.any p))∧Below w.heap.size w w':=by
 have HC:=am_ (idxGoal_calls g lb p eg w base hp A c l hr0 hl);rw [←fidx_anyG p l 0 (by omega)];generalize fidx p l 0=r at HC;clear hp hr0 eg;go_enter Try.func128,Try.ntmps128;go_wp2_with (go_at_call 151;refine HC.out.mono ?_;rintro e w' ⟨rfl,hb'⟩;have HB':=Aside0.mk hb';clear hb')
 go_ret
 exact ⟨rfl,HB'.out⟩
end Go.Proofs.Ytahidkjncljkaaa.Print

namespace Go.Proofs.Ytahidkjncljkaaa.Print
open Go.RowKit Go.Proofs.YtahidkjncljkaaaW.PrintWords Go.Proofs.YtahidkjncljkaaaW.PrintLast
end Go.Proofs.Ytahidkjncljkaaa.Print

namespace Go.Proofs.Ytahidkjncljkaaa.Print
open Go.RowKit Go.Proofs.YtahidkjncljkaaaW.PrintWords Go.Proofs.YtahidkjncljkaaaW.PrintLast Go.Proofs.YtahidkjncljkaaaW.PrintMore
attribute [local go_sem] max2_int min2_int max_two min_two max_three min_three max_four min_four

attribute [local go_sem high] eqA37
end Go.Proofs.Ytahidkjncljkaaa.Print

namespace Go.Proofs.Ytahidkjncljkaaa.Print
open Go.RowKit Go.Proofs.YtahidkjncljkaaaW.PrintWords Go.Proofs.YtahidkjncljkaaaW.PrintLast
abbrev PStep:=S76
def neV (a b:Vec):Bool:=(!(a.f0==b.f0)||(!(a.f1==b.f1)||(!(a.f2==b.f2))))
theorem neV_iff {a b:Vec}:neV a b=true↔a≠b:=by
 obtain ⟨a0,a1,a2⟩:=a;obtain ⟨b0,b1,b2⟩:=b;unfold neV;by_cases h0:a0=b0<;>by_cases h1:a1=b1<;>by_cases h2:a2=b2<;>simp [h0,h1,h2]
def raiseS (l:List Item) (wide:Bool) (w:Want):List PStep:=match look l w.f0 with
 |none=> [⟨1,w.f0,w.f1,upV l wide w⟩]
 |some x=>if neV x.f2 (upV l wide w)=true then [⟨2,w.f0,⟨#[]⟩,upV l wide w⟩] else []
def moveS (l:List Item) (w:Want):List PStep:=match look l w.f0 with
 |none=> []
 |some x=>if x.f1=w.f1 then [] else [⟨3,w.f0,w.f1,⟨0,0,0⟩⟩]
def lowerS (l:List Item) (wide:Bool) (w:Want):List PStep:=if neV (upV l wide w) w.f2=true then [⟨2,w.f0,⟨#[]⟩,w.f2⟩] else []
def delS (n:ByteArray):PStep:=⟨4,n,⟨#[]⟩,⟨0,0,0⟩⟩
def wideGo (l:List Item) (ms:List PMark):Bool→List Want→Option Bool
  |b,[]=>some b
  | b, w :: ws => match look l w.f0 with
    |none=>wideGo l ms b ws
    |some x=>if mlook ms w.f0=none then none else wideGo l ms (b|| !decide (x.f1=w.f1)) ws
def planR (ws:List Want) (ms:List PMark) (l:List Item):List PStep×Int:=
 if checkR ws=0 then (match wideGo l ms false (topR ws) with
  |none=>([],3)
  |some wide=>((((topR ws).flatMap (raiseS l wide)++(topR ws).flatMap (moveS l))++(topR ws).reverse.flatMap (lowerS l wide))++(goesR ws ms l).map delS,0)) else ([],checkR ws)
theorem len_goesGo (ws:List Want) (l:List Item): ∀(ms:List PMark) (out:List ByteArray),(goesGo ws l out ms).length≤out.length+ms.length
  |[],out=>by rw [goesGo];simp
  | m :: ms, out => by
    rw [goesGo]
    split
    · have := len_goesGo ws l ms out
      rw [List.length_cons];omega
    have:=len_goesGo ws l ms (insG l m.f0 out)
    rw [len_insG] at this;rw [List.length_cons];omega
section
variable {ws:List Want} {ms:List PMark} {l:List Item} {top:List Want} {wide:Bool} {r:List PStep×Int}
end
end Go.Proofs.Ytahidkjncljkaaa.Print

namespace Go.Proofs.Ytahidkjncljkaaa.Print
open Go.RowKit Go.Proofs.YtahidkjncljkaaaW.PrintWords Go.Proofs.YtahidkjncljkaaaW.PrintLast Go.Proofs.YtahidkjncljkaaaW.PrintMore
theorem at_str {w:World} {A:Option Addr} {n:Nat} {xs:List ByteArray} (h:Kd.C Kd.string w A n xs) (i:Int) (h0:0≤i) (h1:i<n): ∃ad,A=some ad∧w.cell? (ad.add i.toNat)=some (.string (rdOf ByteArray.empty xs i)):=by
 obtain ⟨ad,c,e,_,hK,hc⟩:=Kd.C_get h ByteArray.empty i h0 h1;have hc0: ∀j u,c[j]?=some u→w.cell? (ad.add (i.toNat*1+j))=some u:=hc;obtain rfl:c=[.string (xs.getD i.toNat ByteArray.empty)]:=hK;have:=hc0 0 _ rfl
 rw [Nat.mul_one,Nat.add_zero] at this;exact ⟨ad,e,this⟩
end Go.Proofs.Ytahidkjncljkaaa.Print

namespace Go.Proofs.Ytahidkjncljkaaa.Print
open Go.RowKit Go.Shelf Go.Sort Go.Proofs.YtahidkjncljkaaaW.PrintWords Go.Proofs.YtahidkjncljkaaaW.PrintLast Go.Proofs.YtahidkjncljkaaaW.PrintMore
theorem Kd.R_types2 {α:Type} {d:Kd α} {e base t:Nat} {w:World} {u v:Value} {xs:List α} (h:d.R e w base (fun _=>True) u xs) (ho: ∀k,v.ownBlock=some k→ ∃cells,w.heap[k]?=some (Obj.cells cells t (0,0))) (ht: ∀q,q∈e::d.E→q≠t):d.R e w base (fun k=>some k≠v.ownBlock) u xs:=
 Kd.R_mono (Kd.R_bound h) (fun k hk he=>by
  obtain ⟨_,_,_,q,hq,cells,hc⟩:=hk
  obtain ⟨cs,hc2⟩:=ho k he.symm
  rw [hc] at hc2
  injection hc2 with hc2
  injection hc2 with _ h2 _
  exact ht q hq h2)
theorem blk_row {w w1:World} {k t t':Nat} {cs:Array Value} {v:Value} (h:w.heap[k]?=some (Obj.cells cs t (0,0))) (ho: ∀k,v.ownBlock=some k→ ∃cells,w.heap[k]?=some (Obj.cells cells t' (0,0))) (ht:t≠t') (hg:w.grownBy w1 v.ownBlock):w1.heap[k]?=some (Obj.cells cs t (0,0)):=
 blk_put_other2 h hg (fun e=>by
  obtain ⟨cs',hc⟩:=ho k e.symm;rw [h] at hc;injection hc with hc;injection hc with _ h2 _;exact ht h2)
def hasG (gs:List PGoal) (m:PMark):Bool:=gs.any (fun y=>y.f0.f0.toList==m.f0.toList)
def dropN (gs:List PGoal):List PMark→List ByteArray
 |[]=> []
 |m::ms=>if hasG gs m=true then dropN gs ms else m.f0::dropN gs ms
theorem dropN_append (gs:List PGoal): ∀a b:List PMark,dropN gs (a++b)=dropN gs a++dropN gs b
  |[],b=>rfl
  | m :: a, b => by
    show (if hasG gs m=true then dropN gs (a++b) else m.f0::dropN gs (a++b))=_
    rw [dropN_append gs a b]
    show _=(if hasG gs m=true then dropN gs a else m.f0::dropN gs a)++_
    split<;>rfl
theorem dropN_len (gs:List PGoal): ∀a:List PMark,(dropN gs a).length≤a.length
  |[]=>Nat.le_refl _
  | m :: a => by
    have:=dropN_len gs a
    unfold dropN
    split<;>simp<;>omega
def GoneIs (gs:List PGoal) (ms:List PMark) (l:List Item) (ns:List ByteArray):Prop:=ns.Perm (dropN gs ms)∧ns.Pairwise (fun x y=> ¬cmpW (depN l) y x<0)
set_option maxHeartbeats 8000000 in
set_option maxRecDepth 100000 in
theorem planDrop_calls (w W:World) (b:Nat) (vg vo:Value) (wide:Bool) (gs:List PGoal) (out:List S76) (Am:Option Addr) (cm:Nat) (ms:List PMark) (Al:Option Addr) (cl:Nat) (l:List Item) (hM:Kd.C k84 w Am ms.length ms) (hcm:ms.length≤cm) (hC:Kd.C k79 w Al l.length l) (hcl:l.length≤cl) (hll:l.length<1000000)
    (hb:W.heap[b]?=some (Obj.cells #[vg, .bool wide,vo] 139 (0,0))) (hge:w.heap.size≤b) (hB:Below w.heap.size w W) (hg:Kd.R k141 141 W w.heap.size (fun _=>True) vg gs) (ho:Kd.R k76 76 W w.heap.size (fun _=>True) vo out) (hl:out.length+gs.length+ms.length<50000):
    Calls Try.prog 97 #[.pointer (some ⟨b,0,none⟩), .slice Am ms.length cm, .slice Al l.length cl] W fun e w'=>e= .returned (.tuple #[])∧ ∃(ns:List ByteArray) (vo':Value),GoneIs gs ms l ns∧w'.heap[b]?=some (Obj.cells #[vg, .bool wide,vo'] 139 (0,0))∧Kd.R k76 76 w' w.heap.size (fun _=>True) vo' (out++ns.map delS)∧Below w.heap.size w w':=by
  have hu139:=Try.underlying139;have hu84:=Try.underlying84;have hu76:=Try.underlying76;obtain ⟨Ag,cg,eg⟩:=Kd.R_slice hg;subst eg;have HM:=Aside0.mk hM;have HC:=Aside0.mk hC;have HCL:=Aside0.mk hcl;have HLL:=Aside0.mk hll;have BK:=Aside0.mk hb;have GE:=Aside0.mk hge;have HB:=Aside0.mk hB;have HG:=Aside0.mk hg;have HO:=Aside0.mk ho;have HLN:=Aside0.mk hl;clear hM hC hcl hll hb hge hB hg ho hl;go_enter Try.func97,Try.ntmps97;go_wp2_with (first|((with_reducible refine gate_dst (N:=5) rfl ?_);refine bx_ (N:=5) (cs:=#[.slice Al l.length cl]) (t:=46) ?_;intro gb5 hg w1 hbox hb;replace HO:=am_ (Kd.R_below HO.out hb);replace HG:=am_ (Kd.R_below HG.out hb);replace BK:=am_ (blk_below BK.out hb);replace HB:=am_ (below_step HB.out hb);have B5:=Aside0.mk hbox;have G5:=Aside0.mk hg;clear hbox hb hg))
  go_loopg [6,13] ms.length (fun kq v6 v13 w'=> ∃(pre post:List PMark),ms=pre++post∧kq=post.length∧v13= .int .i64 (pre.length:Int)∧Aside0 (w'.heap[b]?=some (Obj.cells #[.slice Ag gs.length cg, .bool wide,vo] 139 (0,0)))∧Aside0 (w'.heap[gb5]?=some (Obj.cells #[.slice Al l.length cl] 46 (0,0)))∧Aside0 (Kd.R k141 141 w' w.heap.size (fun _=>True) (.slice Ag gs.length cg) gs)∧Aside0 (Kd.R k76 76 w' w.heap.size (fun _=>True) vo out)∧Aside0 (Kd.R Kd.string 9 w' w.heap.size (fun _=>True) v6 (dropN gs pre))∧Aside0 (Below w.heap.size w w'))
  case atStart=>exact ⟨[],ms,rfl,rfl,rfl,BK,B5,HG,HO,⟨Kd.R_nil _ _ _ _ _⟩,HB⟩
  case round=>
    clear BK HG HO HB B5;obtain ⟨pre,post,hms,hkq,rfl,BK,B5,HG,HO,HN,HB⟩:=hrel;obtain ⟨An,cn,en⟩:=Kd.R_slice HN.out;subst en
    cases post with
    | nil =>
      have c1:decide ((pre.length:Int)<(ms.length:Int))=false:=decide_eq_false (by rw [hms,List.append_nil];omega);rw [List.append_nil] at hms;subst hms;go_wp2_with (go_at_call 130;refine (sortNames_calls HC.out HCL.out HLL.out HB.out B5.out HN.out (by have:=HLN.out;have:=dropN_len gs ms;omega)).mono ?_;rintro e w7 ⟨rfl,ns,hn,hp,hs,hg⟩;have OWN:=own_typed (Kd.own_of_R HN.out);have n0_:=am_ (Kd.R_mono (Kd.R_grown (Kd.R_types2 HO.out OWN (by decide)) hg (fun k hk e=>hk e)) (fun _ _=>trivial));have n1_:=am_ (Kd.R_mono (Kd.R_grown (Kd.R_types2 HG.out OWN (by decide)) hg (fun k hk e=>hk e)) (fun _ _=>trivial));have n2_:=am_ (blk_row BK.out OWN (by decide) hg);have n3_:=am_ (pw_below_grown HB.out _ (below_size HB.out) hg (own_base (Kd.own_of_R HN.out)));have n4_:=Aside0.mk hn;have HP:Aside0 (GoneIs gs ms l ns):=Aside0.mk ⟨hp,hs⟩;clear HO HG BK B5 HN HB hn hp hs hg OWN;have HO:=n0_;have HG:=n1_;have BK:=n2_;have HB:=n3_;have HN:=n4_;clear n0_ n1_ n2_ n3_ n4_)
      have HLP:=am_ (show ns.length≤ms.length by rw [HP.out.1.length_eq];exact dropN_len gs ms);have elen:(dropN gs ms).length=ns.length:=HP.out.1.length_eq.symm;rw [elen] at HN ⊢;go_loopg [35] ns.length (fun kq v35 w'=> ∃(p2 q2:List ByteArray) (u:Value),ns=p2++q2∧kq=q2.length∧v35= .int .i64 (p2.length:Int)∧Aside0 (w'.heap[b]?=some (Obj.cells #[.slice Ag gs.length cg, .bool wide,u] 139 (0,0)))∧Aside0 (Kd.R k141 141 w' w.heap.size (fun _=>True) (.slice Ag gs.length cg) gs)∧Aside0 (Kd.R k76 76 w' w.heap.size (fun _=>True) u (out++p2.map delS))∧Aside0 (Kd.R Kd.string 9 w' w.heap.size (fun _=>True) (.slice An ns.length cn) ns)∧Aside0 (Below w.heap.size w w'))
      case atStart=>exact ⟨[],ns,vo,rfl,rfl,rfl,BK,HG,⟨by rw [List.map_nil,List.append_nil];exact HO.out⟩,HN,HB⟩
      case round=>
        clear BK HG HO HB HN;obtain ⟨p2,q2,u,hns,hkq2,rfl,BK,HG,HO,HN,HB⟩:=hrel
        cases q2 with
        | nil =>
          have c2:decide ((p2.length:Int)<(ns.length:Int))=false:=decide_eq_false (by rw [hns,List.append_nil];omega);rw [List.append_nil] at hns;subst hns;go_wp2
          (first|go_end0|((try simp only [Exit.inBlock,Exit.then]);refine bodyPost_ret (results_none rfl _ _ _) rfl ?_)|refine bodyPost_end (results_none rfl _ _ _) rfl ?_)
          first|exact ⟨rfl,_,HP.out,_,BK.out,HO.out,HB.out⟩|exact ⟨rfl,_,_,HP.out,BK.out,HO.out,HB.out⟩
        | cons s q2 =>
          have hn:ns.length=p2.length+(q2.length+1):=by rw [hns,List.length_append,List.length_cons]
          have c2:decide ((p2.length:Int)<(ns.length:Int))=true:=decide_eq_true (by omega);have p6:(0:Int)≤((p2.length:Nat):Int):=by omega
          have q6:((p2.length:Nat):Int)<(ns.length:Int):=by omega
          obtain ⟨ad,e6,k0⟩:=at_str (Kd.R_reads' HN.out).2.2 ((p2.length:Nat):Int) p6 q6;subst e6
          have es:rdOf ByteArray.empty ns ((p2.length:Nat):Int)=s:=by
            unfold rdOf;rw [Int.toNat_natCast,hns,List.getD_eq_getElem?_getD,List.getElem?_append_right (Nat.le_refl _),Nat.sub_self]
            rfl
          rw [es] at k0;simp only [Int.toNat_natCast] at k0;have HNS:=Aside0.mk hns;have HKQ:=Aside0.mk hkq2;have HNL:=Aside0.mk hn;have HLP:=am_ (show p2.length≤ms.length by have:=HLP.out;omega);clear hns hkq2 hn es;replace p6:=eq_true p6;replace q6:=eq_true q6;go_wp2_with (go_at_call 126;refine (planPut_calls w _ b _ _ _ _ (delS s) BK.out GE.out HB.out HO.out (by rw [List.length_append,List.length_map];have:=HLN.out;have:=HLP.out;omega)).mono ?_;rintro e w9 ⟨rfl,vo',hbk,ho,hb,hk⟩;have n0_:=am_ (R_keepS HN.out BK.out (by decide) hk);have n1_:=am_ (R_keepS HG.out BK.out (by decide) hk);clear HN HG BK HO HB hk;have HN:=n0_;have HG:=n1_;have BK:=Aside0.mk hbk;have HO:=Aside0.mk ho;have HB:=Aside0.mk hb;clear n0_ n1_ hbk ho hb)
          go_roundg q2.length
          case measure=>have:=HKQ.out;rw [this,List.length_cons];omega
          case rel=>exact ⟨p2++ [s],q2,_,by rw [HNS.out,List.append_assoc];rfl,rfl,by rw [List.length_append,List.length_singleton,nx_nat (n:=ns.length) (by have:=HNL.out;omega) (by have:=HLN.out;have:=HNL.out;have:=HP.out.1.length_eq;have:=dropN_len gs ms;omega)],BK,HG,⟨by rw [List.map_append,←List.append_assoc];exact HO.out⟩,HN,HB⟩
    | cons m post =>
      have hn:ms.length=pre.length+(post.length+1):=by rw [hms,List.length_append,List.length_cons]
      have c1:decide ((pre.length:Int)<(ms.length:Int))=true:=decide_eq_true (by omega);have p6:(0:Int)≤((pre.length:Nat):Int):=by omega
      have q6:((pre.length:Nat):Int)<(ms.length:Int):=by omega
      obtain ⟨ad,e6,k0,k1_,k2,k3,k4,k5⟩:=at_T84 HM.out ((pre.length:Nat):Int) p6 q6;subst e6
      have em:rd_T84 ms ((pre.length:Nat):Int)=m:=by
        rw [rd_pmark,Int.toNat_natCast,hms,List.getD_eq_getElem?_getD,List.getElem?_append_right (Nat.le_refl _),Nat.sub_self]
        rfl
      rw [em] at k0 k1_ k2 k3 k4 k5;simp only [Int.toNat_natCast] at k0 k1_ k2 k3 k4 k5;have k0:=zx_ HB k0;have k1_:=zx_ HB k1_;have k2:=zx_ HB k2;have k3:=zx_ HB k3;have k4:=zx_ HB k4;have k5:=zx_ HB k5;have HMS:=Aside0.mk hms;have HKQ:=Aside0.mk hkq;have HMN:=Aside0.mk hn;have HI:=am_ (show pre.length<ms.length by omega);clear hms hkq hn em;replace p6:=eq_true p6;replace q6:=eq_true q6
      cases hh:hasG gs m with
      | true =>
        have HH:=am_ (show dropN gs (pre++ [m])=dropN gs pre from by rw [dropN_append];unfold dropN;rw [if_pos hh];exact List.append_nil _);have hh2:gs.any (fun y=>y.f0.f0.toList==m.f0.toList)=true:=hh;clear hh
        go_wp2_with (first|((with_reducible refine gate_dst (N:=8) rfl ?_);refine bx_ (N:=8) (cs:=#[.string ⟨#[]⟩, .string ⟨#[]⟩, .int .i64 0, .int .i64 0, .int .i64 0, .int .i64 0]) (t:=84) ?_;intro gb8 hg w3 hbox hb;have NE8:=am_ (show b≠gb8 from by have:=blk_lt BK.out;omega);have NE58:=am_ (show gb5≠gb8 from by have:=blk_lt B5.out;omega);have GE8:=am_ (show w.heap.size≤gb8 from by rw [hg];exact below_size HB.out);replace HO:=am_ (Kd.R_below HO.out hb);replace HG:=am_ (Kd.R_below HG.out hb);replace HN:=am_ (Kd.R_below HN.out hb);replace BK:=am_ (blk_below BK.out hb);replace B5:=am_ (blk_below B5.out hb);replace HB:=am_ (below_step HB.out hb);have B8:=Aside0.mk hbox;clear hbox hb hg)|((with_reducible refine gate_store (t:=84) (p:=8) (v:= .tmp 16) rfl ?_);refine store_all B8.out 84 (.tmp 8) (.tmp 16) rfl rfl rfl (.agg #[.string m.f0, .string m.f1, .int .i64 m.f2.f0, .int .i64 m.f2.f1, .int .i64 m.f2.f2, .int .i64 m.f3]) [.string m.f0, .string m.f1, .int .i64 m.f2.f0, .int .i64 m.f2.f1, .int .i64 m.f2.f2, .int .i64 m.f3] rfl rfl rfl (by kernel_rfl) rfl (by intro q hq;simp only [List.mem_cons,List.not_mem_nil,or_false] at hq;rcases hq with rfl|rfl|rfl|rfl|rfl|rfl<;>rfl) ?_;intro w4 hbk hg;replace HO:=am_ (R_put HO.out B8.out (by decide) hg);replace HG:=am_ (R_put HG.out B8.out (by decide) hg);replace HN:=am_ (R_put HN.out B8.out (by decide) hg);replace BK:=am_ (blk_put_other BK.out hg NE8.out);replace B5:=am_ (blk_put_other B5.out hg NE58.out);replace HB:=am_ (below_put HB.out (below_size HB.out) hg GE8.out);replace B8:=am_ (hbk);clear hbk hg;have cb0:=zz_ BK 0;have c80:=zz_ B8 0)|(go_at_call 128;refine (hasGoal_calls 129 #[.pointer (some ⟨gb8,0,none⟩)] (fun y=>y.f0.f0.toList==m.f0.toList) (enters_of Try.func129 (by kernel_rfl) rfl) _ w.heap.size (fun W' x hb=>dropHas_calls W' gb8 m x (blk_below B8.out hb)) Ag cg gs HG.out (by have:=HLN.out;omega)).mono ?_;rintro e w5 ⟨rfl,hb⟩;try rw [hh2];replace HO:=am_ (Kd.R_below HO.out hb);replace HG:=am_ (Kd.R_below HG.out hb);replace HN:=am_ (Kd.R_below HN.out hb);replace BK:=am_ (blk_below BK.out hb);replace B5:=am_ (blk_below B5.out hb);replace B8:=am_ (blk_below B8.out hb);replace HB:=am_ (below_step HB.out hb);clear hb cb0 c80;have c80:=zz_ B8 0))
        go_roundg post.length
        case measure=>have:=HKQ.out;rw [this,List.length_cons];omega
        case rel=>exact ⟨pre++ [m],post,by rw [HMS.out,List.append_assoc];rfl,rfl,by rw [List.length_append,List.length_singleton,nx_nat (n:=ms.length) (by have:=HMN.out;omega) (by have:=HLN.out;omega)],BK,B5,HG,HO,⟨by rw [HH.out];exact HN.out⟩,HB⟩
      | false =>
        have HH:=am_ (show dropN gs (pre++ [m])=dropN gs pre++ [m.f0] from by rw [dropN_append];unfold dropN;rw [if_neg (by rw [hh];simp)];rfl);have hh2:gs.any (fun y=>y.f0.f0.toList==m.f0.toList)=false:=hh;clear hh
        go_wp2_with (first|((with_reducible refine gate_dst (N:=8) rfl ?_);refine bx_ (N:=8) (cs:=#[.string ⟨#[]⟩, .string ⟨#[]⟩, .int .i64 0, .int .i64 0, .int .i64 0, .int .i64 0]) (t:=84) ?_;intro gb8 hg w3 hbox hb;have NE8:=am_ (show b≠gb8 from by have:=blk_lt BK.out;omega);have NE58:=am_ (show gb5≠gb8 from by have:=blk_lt B5.out;omega);have GE8:=am_ (show w.heap.size≤gb8 from by rw [hg];exact below_size HB.out);replace HO:=am_ (Kd.R_below HO.out hb);replace HG:=am_ (Kd.R_below HG.out hb);replace HN:=am_ (Kd.R_below HN.out hb);replace BK:=am_ (blk_below BK.out hb);replace B5:=am_ (blk_below B5.out hb);replace HB:=am_ (below_step HB.out hb);have B8:=Aside0.mk hbox;clear hbox hb hg)|((with_reducible refine gate_store (t:=84) (p:=8) (v:= .tmp 16) rfl ?_);refine store_all B8.out 84 (.tmp 8) (.tmp 16) rfl rfl rfl (.agg #[.string m.f0, .string m.f1, .int .i64 m.f2.f0, .int .i64 m.f2.f1, .int .i64 m.f2.f2, .int .i64 m.f3]) [.string m.f0, .string m.f1, .int .i64 m.f2.f0, .int .i64 m.f2.f1, .int .i64 m.f2.f2, .int .i64 m.f3] rfl rfl rfl (by kernel_rfl) rfl (by intro q hq;simp only [List.mem_cons,List.not_mem_nil,or_false] at hq;rcases hq with rfl|rfl|rfl|rfl|rfl|rfl<;>rfl) ?_;intro w4 hbk hg;replace HO:=am_ (R_put HO.out B8.out (by decide) hg);replace HG:=am_ (R_put HG.out B8.out (by decide) hg);replace HN:=am_ (R_put HN.out B8.out (by decide) hg);replace BK:=am_ (blk_put_other BK.out hg NE8.out);replace B5:=am_ (blk_put_other B5.out hg NE58.out);replace HB:=am_ (below_put HB.out (below_size HB.out) hg GE8.out);replace B8:=am_ (hbk);clear hbk hg;have cb0:=zz_ BK 0;have c80:=zz_ B8 0)|(go_at_call 128;refine (hasGoal_calls 129 #[.pointer (some ⟨gb8,0,none⟩)] (fun y=>y.f0.f0.toList==m.f0.toList) (enters_of Try.func129 (by kernel_rfl) rfl) _ w.heap.size (fun W' x hb=>dropHas_calls W' gb8 m x (blk_below B8.out hb)) Ag cg gs HG.out (by have:=HLN.out;omega)).mono ?_;rintro e w5 ⟨rfl,hb⟩;try rw [hh2];replace HO:=am_ (Kd.R_below HO.out hb);replace HG:=am_ (Kd.R_below HG.out hb);replace HN:=am_ (Kd.R_below HN.out hb);replace BK:=am_ (blk_below BK.out hb);replace B5:=am_ (blk_below B5.out hb);replace B8:=am_ (blk_below B8.out hb);replace HB:=am_ (below_step HB.out hb);clear hb cb0 c80;have c80:=zz_ B8 0)|((with_reducible refine gate_builtin (b:= .append) (xs:=#[.tmp 24, .tmp 27]) rfl ?_);at_builtin;refine Kd.R_append Kd.string (w0:=w) w.heap.size rfl (.tmp 24) (.tmp 27) 85 9 (.string ⟨#[]⟩) 16 rfl Try.underlying85 info9 rfl (by decide) (by omega) _ (dropN gs pre) m.f0 [.string m.f0] (fun _=>True) (fun _=>False) rfl (by first|(go_simp;done)|(go_simp;rfl)|rfl) ?aP (fun _ hk=>hk.elim) (fun _ _=>trivial) HN.out HB.out (below_size HB.out) (by have:=HLN.out;have:=dropN_len gs pre;have:=HI.out;have:=HMN.out;omega) ?_;(case aP=>exact (rfl:Kd.M Kd.string _ _ _ m.f0 [.string m.f0]));intro v6 w6 ho hb hg hat;have OWN:=own_typed (Kd.own_of_R HN.out);have n0_:=am_ (Kd.R_mono (Kd.R_grown (Kd.R_types2 HO.out OWN (by decide)) hg (fun k hk e=>hk e)) (fun _ _=>trivial));have n1_:=am_ (Kd.R_mono (Kd.R_grown (Kd.R_types2 HG.out OWN (by decide)) hg (fun k hk e=>hk e)) (fun _ _=>trivial));have n2_:=am_ (blk_row BK.out OWN (by decide) hg);have n3_:=am_ (blk_row B5.out OWN (by decide) hg);have n4_:=Aside0.mk ho;have n5_:=Aside0.mk hb;clear HO HG BK B5 HN HB ho hb hg hat OWN;have HO:=n0_;have HG:=n1_;have BK:=n2_;have B5:=n3_;have HN:=n4_;have HB:=n5_;clear n0_ n1_ n2_ n3_ n4_ n5_))
        go_roundg post.length
        case measure=>have:=HKQ.out;rw [this,List.length_cons];omega
        case rel=>exact ⟨pre++ [m],post,by rw [HMS.out,List.append_assoc];rfl,rfl,by rw [List.length_append,List.length_singleton,nx_nat (n:=ms.length) (by have:=HMN.out;omega) (by have:=HLN.out;omega)],BK,B5,HG,HO,⟨by rw [HH.out];exact HN.out⟩,HB⟩
end Go.Proofs.Ytahidkjncljkaaa.Print

namespace Go.Proofs.Ytahidkjncljkaaa.Print
open Go.RowKit Go.Proofs.YtahidkjncljkaaaW.PrintWords Go.Proofs.YtahidkjncljkaaaW.PrintLast Go.Proofs.YtahidkjncljkaaaW.PrintMore
attribute [local go_sem] max2_int min2_int max_two min_two max_three min_three max_four min_four

mutual
def want_list_sums.l0:Nat→List (S39)→Int→Int→List (S39)→Option (Int)
 |0,_,_,_,_=>none
 |k+1,x9,x10,x11,x2000=>if x11<x10 then (if 0≤x11 then (if x11<(x9.length:Int) then (want_list_sums.l1 k ([]:List (S37)) x9 x10 x11 x2000 (x2000.length:Int) 0 x2000 ((rd_T39 x9 x11).f0) ((rd_T39 x9 x11).f1) ((rd_T39 x9 x11).f2.f0) ((rd_T39 x9 x11).f2.f1) ((rd_T39 x9 x11).f2.f2)) else (none)) else (none)) else (some 0)
def want_list_sums.l1:Nat→List (S37)→List (S39)→Int→Int→List (S39)→Int→Int→List (S39)→ByteArray→ByteArray→Int→Int→Int→Option (Int)
 |0,_,_,_,_,_,_,_,_,_,_,_,_,_=>none
 |k+1,x5,x9,x10,x11,x16,x17,x18,x2000,x4000,x4001,x4002,x4003,x4004=>if x18<x17 then (if 0≤x18 then (if x18<(x16.length:Int) then (if ((rd_T39 x16 x18).f1).toList=x4000.toList then (if x5.length<5864062014805 then (want_list_sums.l1 k (x5++ [(⟨(rd_T39 x16 x18).f2.f0,(rd_T39 x16 x18).f2.f1,(rd_T39 x16 x18).f2.f2⟩:S37)]) x9 x10 x11 x16 x17 (wrap64 (x18+1)) x2000 x4000 x4001 x4002 x4003 x4004) else (none)) else (want_list_sums.l1 k x5 x9 x10 x11 x16 x17 (wrap64 (x18+1)) x2000 x4000 x4001 x4002 x4003 x4004)) else (none)) else (none)) else ((vec_Add.f x5).bind fun bt9=>((vec_Le.f bt9.1 bt9.2.1 bt9.2.2 x4002 x4003 x4004).bind fun t12=>(if t12=true then (want_list_sums.l0 k x9 x10 (wrap64 (x11+1)) x2000) else (some 11))))
end
def want_list_sums.f (k:Nat) (l0_0:List (S39)):Option (Int):=want_list_sums.l0 k l0_0 (l0_0.length:Int) 0 l0_0
theorem want_list_sums.mono_l: ∀k,(∀y0 y1 y2 y3,LeO (want_list_sums.l0 k y0 y1 y2 y3) (want_list_sums.l0 (k+1) y0 y1 y2 y3))∧(∀y0 y1 y2 y3 y4 y5 y6 y7 y8 y9 y10 y11 y12,LeO (want_list_sums.l1 k y0 y1 y2 y3 y4 y5 y6 y7 y8 y9 y10 y11 y12) (want_list_sums.l1 (k+1) y0 y1 y2 y3 y4 y5 y6 y7 y8 y9 y10 y11 y12))
 |0=>⟨fun _ _ _ _ r h=>by simp [want_list_sums.l0] at h,fun _ _ _ _ _ _ _ _ _ _ _ _ _ r h=>by simp [want_list_sums.l1] at h⟩
 |k+1=>by
  obtain ⟨ih0,ih1⟩:=want_list_sums.mono_l k;refine ⟨?_, ?_⟩<;>(intros;first|unfold want_list_sums.l0|unfold want_list_sums.l1)<;>repeat' with_reducible first|apply ih0|apply ih1|apply LeO.refl|apply LeO.none|apply LeO.ite|refine LeO.bind ?_ fun _=> ?_
theorem want_list_sums.mono: ∀a0 k,LeO (want_list_sums.f k a0) (want_list_sums.f (k+1) a0):=by
 intro a0 k;obtain ⟨ih0,ih1⟩:=want_list_sums.mono_l k;unfold want_list_sums.f
 repeat' with_reducible first|apply ih0|apply ih1|apply LeO.refl|apply LeO.none|apply LeO.ite|refine LeO.bind ?_ fun _=> ?_
set_option maxHeartbeats 8000000 in
set_option maxRecDepth 100000 in
theorem want_list_sums.calls (k:Nat) (A0_0:Option Addr) (c0_0:Nat) (l0_0:List (S39)) (r:Int) (w:World) (hr0_0:Kd.C k39 w A0_0 l0_0.length l0_0) (hc0_0:l0_0.length≤c0_0) (h:want_list_sums.f k l0_0=some r):
  Calls Try.prog 75 #[.agg #[.slice A0_0 l0_0.length c0_0]] w fun e w'=>e= .returned (.int .i64 r)∧Below w.heap.size w w':=by
 have hu110:=Try.underlying110;have hu39:=Try.underlying39;have hu37:=Try.underlying37;have HR0_0:=Aside0.mk hr0_0;have HC0_0:=Aside0.mk hc0_0;clear hr0_0 hc0_0;have HB:=am_ (Below.refl w.heap.size w);have H:(want_list_sums.l0 k l0_0 (l0_0.length:Int) 0 l0_0)=some r:=h;clear h;have H':=Aside0.mk H;clear H;go_enter Try.func75,Try.ntmps75;go_wp2_with (first|((with_reducible refine gate_dst (N:=1) rfl ?_);refine bx_ (N:=1) (cs:=#[.slice A0_0 l0_0.length c0_0]) (t:=110) ?_;intro gb1 hg w2 hbox hb;have BK1:=am_ (hbox);have GE1:=am_ ((zg0_ HB hg:w.heap.size≤gb1));replace HB:=am_ (below_step (zl0_ HB) hb);clear hb hbox hg;have hcz3_0:=zz_ BK1 0;have hfz3_0:=blk_frozen BK1.out 0))
 go_loopg [11] k (fun kq v11 w'=> ∃(x11_1:Int),v11= .int .i64 x11_1∧Aside0 (want_list_sums.l0 kq l0_0 (l0_0.length:Int) x11_1 l0_0=some r)∧Aside0 (kq≤k)∧Aside0 (w'.heap[gb1]?=some (.cells #[(.slice A0_0 l0_0.length c0_0)] 110 (0,0)))∧Aside0 (Below w.heap.size w w'))
 case atStart=>exact ⟨(0),rf_,H',⟨Nat.le_refl _⟩,am_ (zb_ BK1),⟨zl1_ HB GE1⟩⟩
 case round=>
  clear H';obtain ⟨x11_1,rfl,HA,HK1,BK1,HB⟩:=hrel
  cases gk with
  |zero=>exact absurd HA.out (by simp [want_list_sums.l0])
  |succ k1=>
   have H:=HA.out;clear HA;simp only [want_list_sums.l0] at H;by_cases c4:x11_1<(l0_0.length:Int);rotate_left
   ·rw [if_neg c4] at H;have c4b0:=decide_eq_false c4;clear c4;obtain rfl:=Option.some.inj H;go_wp2
    go_ret
    exact ⟨by first|rfl|(simp [errW_none,errW_some]<;>rfl)|(simp [*,errW_none,errW_some]<;>rfl),zl1_ HB GE1⟩

   rw [if_pos c4] at H;have c4b0:=decide_eq_true c4;clear c4;replace H:=zif_ H;obtain ⟨c5,H⟩:=H;have c5b0:=decide_eq_true c5;clear c5;replace H:=zif_ H;obtain ⟨c6,H⟩:=H;have c6b0:=decide_eq_true c6;clear c6;have H':=Aside0.mk H;clear H;obtain ⟨p2,q2,ad2,e2,hx2_0,hx2_1,hx2_2,hx2_3,hx2_4⟩:=zat_ (at_T39 HR0_0.out x11_1);cases e2;replace hx2_0:=zx5_ HB hx2_0 hx2_1 hx2_2 hx2_3 hx2_4;clear hx2_1 hx2_2 hx2_3 hx2_4;obtain ⟨hx2_0,hx2_1,hx2_2,hx2_3,hx2_4⟩:=hx2_0;go_wp2_with (first|((with_reducible refine gate_dst (N:=4) rfl ?_);refine bx_ (N:=4) (cs:=#[.string (⟨#[]⟩:ByteArray), .string (⟨#[]⟩:ByteArray), .int .i64 0, .int .i64 0, .int .i64 0]) (t:=39) ?_;intro gb3 hg w7 hbox hb;have BK3:=am_ (hbox);have GE3:=am_ ((zg1_ HB GE1 hg:w.heap.size≤gb3));replace HB:=am_ (below_step (zl1_ HB GE1) hb);have NB1_3:=am_ ((zn_ BK1 hg:gb1≠gb3));have NB3_1:=am_ ((zm_ BK1 hg:gb3≠gb1));replace BK1:=bb_ BK1 hb;clear hb hbox hg;have hnb8:=NB3_1.out;have hnc8:=NB1_3.out;obtain ⟨hcz9_0,hcz9_1,hcz9_2,hcz9_3,hcz9_4,hfz9_0,hfz9_1,hfz9_2,hfz9_3,hfz9_4⟩:=y5_ BK3;have hcz10_0:=zz_ BK1 0;have hfz10_0:=blk_frozen BK1.out 0))
   go_loopg [5,18] k1 (fun kq v5 v18 w'=> ∃(x5_2:List (S37)) (x18_2:Int),v18= .int .i64 x18_2∧Aside0 (want_list_sums.l1 kq x5_2 l0_0 (l0_0.length:Int) x11_1 l0_0 (l0_0.length:Int) x18_2 l0_0 ((rd_T39 l0_0 x11_1).f0) ((rd_T39 l0_0 x11_1).f1) ((rd_T39 l0_0 x11_1).f2.f0) ((rd_T39 l0_0 x11_1).f2.f1) ((rd_T39 l0_0 x11_1).f2.f2)=some r)∧Aside0 (kq≤k1)∧Aside0 (Kd.R k37 37 w' w.heap.size (fun _=>True) v5 x5_2)∧Aside0 (w'.heap[gb1]?=some (.cells #[(.slice (some ad2) l0_0.length c0_0)] 110 (0,0)))∧Aside0 (w'.heap[gb3]?=some (.cells #[.string ((rd_T39 l0_0 x11_1).f0), .string ((rd_T39 l0_0 x11_1).f1), .int .i64 ((rd_T39 l0_0 x11_1).f2.f0), .int .i64 ((rd_T39 l0_0 x11_1).f2.f1), .int .i64 ((rd_T39 l0_0 x11_1).f2.f2)] 39 (0,0)))∧Aside0 (Below w.heap.size w w'))
   case atStart=>exact ⟨(([]:List (S37))),(0),rf_,H',⟨Nat.le_refl _⟩,⟨by first|exact Kd.R_nil _ _ _ _ _|exact Kd.N_nil _ _ _ _ _|exact Kd.V_nil _ _ _ _ _|exact Kd.Q_nil _ _ _ _ _|exact Kd.S_nil _ _ _ _ _⟩,⟨zw_ BK1⟩,⟨zw_ BK3⟩,⟨zl2_ HB GE1 GE3⟩⟩
   case round=>
    clear H';obtain ⟨x5_2,x18_2,rfl,HA,HK2,HO_5,BK1,BK3,HB⟩:=hrel
    cases gk with
    |zero=>exact absurd HA.out (by simp [want_list_sums.l1])
    |succ k2=>
     have H:=HA.out;clear HA;simp only [want_list_sums.l1] at H;by_cases c11:x18_2<(l0_0.length:Int)
     ·rw [if_pos c11] at H;have c11b0:=decide_eq_true c11;clear c11;replace H:=zif_ H;obtain ⟨c12,H⟩:=H;have c12b0:=decide_eq_true c12;clear c12;replace H:=zif_ H;obtain ⟨c13,H⟩:=H;have c13b0:=decide_eq_true c13;clear c13;by_cases c14:((rd_T39 l0_0 x18_2).f1).toList=((rd_T39 l0_0 x11_1).f0).toList;rotate_left
      ·rw [if_neg c14] at H;have c14b0:=beq_eq_false_iff_ne.mpr c14;have c14b1:=bne_iff_ne.mpr c14;have H':=Aside0.mk H;clear H;obtain ⟨p4,q4,ad4,e4,hx4_0,hx4_1,hx4_2,hx4_3,hx4_4⟩:=zat_ (at_T39 HR0_0.out x18_2);obtain rfl:ad2=ad4:=(by injection e4);replace hx4_0:=zx5_ HB hx4_0 hx4_1 hx4_2 hx4_3 hx4_4;clear hx4_1 hx4_2 hx4_3 hx4_4;obtain ⟨hx4_0,hx4_1,hx4_2,hx4_3,hx4_4⟩:=hx4_0;go_wp2_with (first|((with_reducible refine gate_dst (N:=7) rfl ?_);refine bx_ (N:=7) (cs:=#[.string (⟨#[]⟩:ByteArray), .string (⟨#[]⟩:ByteArray), .int .i64 0, .int .i64 0, .int .i64 0]) (t:=39) ?_;intro gb5 hg w23 hbox hb;replace HO_5:=ob_ HO_5 hb;have BK5:=am_ (hbox);have GE5:=am_ ((zg2_ HB GE1 GE3 hg:w.heap.size≤gb5));replace HB:=am_ (below_step (zl2_ HB GE1 GE3) hb);have NB1_5:=am_ ((zn_ BK1 hg:gb1≠gb5));have NB5_1:=am_ ((zm_ BK1 hg:gb5≠gb1));replace BK1:=bb_ BK1 hb;have NB3_5:=am_ ((zn_ BK3 hg:gb3≠gb5));have NB5_3:=am_ ((zm_ BK3 hg:gb5≠gb3));replace BK3:=bb_ BK3 hb;clear hb hbox hg;have hnb24:=NB5_1.out;have hnc24:=NB1_5.out;have hnb25:=NB5_3.out;have hnc25:=NB3_5.out;obtain ⟨hcz26_0,hcz26_1,hcz26_2,hcz26_3,hcz26_4,hfz26_0,hfz26_1,hfz26_2,hfz26_3,hfz26_4⟩:=y5_ BK5;have hnb27:=NB3_1.out;have hnc27:=NB1_3.out;obtain ⟨hcz28_0,hcz28_1,hcz28_2,hcz28_3,hcz28_4⟩:=x5_ BK3;have hfz28_0:=blk_frozen BK3.out 0;have hfz28_1:=blk_frozen BK3.out 1;have hfz28_2:=blk_frozen BK3.out 2;have hfz28_3:=blk_frozen BK3.out 3;have hfz28_4:=blk_frozen BK3.out 4))
       go_roundg k2
       case measure=>have:=HK1.out;have:=HK2.out;omega
       case rel=>exact ⟨(x5_2),(wrap64 (x18_2+1)),rf_,H',⟨by have:=HK1.out;have:=HK2.out;omega⟩,⟨zy_ HO_5 BK5⟩,⟨zw_ BK1⟩,⟨zw_ BK3⟩,⟨zl3_ HB GE1 GE3 GE5⟩⟩
      rw [if_pos c14] at H;have c14b0:=beq_iff_eq.mpr c14;have c14b1:=bne_eq_false_iff_eq.mpr c14;clear c14;replace H:=zif_ H;obtain ⟨c15,H⟩:=H;have LMc15:=Aside0.mk c15;clear c15;obtain ⟨y6,hy6⟩: ∃y_:List (S37),y_=(x5_2++ [(⟨(rd_T39 l0_0 x18_2).f2.f0,(rd_T39 l0_0 x18_2).f2.f1,(rd_T39 l0_0 x18_2).f2.f2⟩:S37)]):=⟨_,rfl⟩;(first|replace H:=zsb_ hy6 H|rw [←hy6] at H);have Ny6:=Aside0.mk hy6;clear hy6;have H':=Aside0.mk H;clear H;obtain ⟨p4,q4,ad4,e4,hx4_0,hx4_1,hx4_2,hx4_3,hx4_4⟩:=zat_ (at_T39 HR0_0.out x18_2);obtain rfl:ad2=ad4:=(by injection e4);replace hx4_0:=zx5_ HB hx4_0 hx4_1 hx4_2 hx4_3 hx4_4;clear hx4_1 hx4_2 hx4_3 hx4_4;obtain ⟨hx4_0,hx4_1,hx4_2,hx4_3,hx4_4⟩:=hx4_0
      go_wp2_with (first|((with_reducible refine gate_dst (N:=7) rfl ?_);refine bx_ (N:=7) (cs:=#[.string (⟨#[]⟩:ByteArray), .string (⟨#[]⟩:ByteArray), .int .i64 0, .int .i64 0, .int .i64 0]) (t:=39) ?_;intro gb5 hg w16 hbox hb;replace HO_5:=ob_ HO_5 hb;have BK5:=am_ (hbox);have GE5:=am_ ((zg2_ HB GE1 GE3 hg:w.heap.size≤gb5));replace HB:=am_ (below_step (zl2_ HB GE1 GE3) hb);have NB1_5:=am_ ((zn_ BK1 hg:gb1≠gb5));have NB5_1:=am_ ((zm_ BK1 hg:gb5≠gb1));replace BK1:=bb_ BK1 hb;have NB3_5:=am_ ((zn_ BK3 hg:gb3≠gb5));have NB5_3:=am_ ((zm_ BK3 hg:gb5≠gb3));replace BK3:=bb_ BK3 hb;clear hb hbox hg;have hnb17:=NB5_1.out;have hnc17:=NB1_5.out;have hnb18:=NB5_3.out;have hnc18:=NB3_5.out;obtain ⟨hcz19_0,hcz19_1,hcz19_2,hcz19_3,hcz19_4,hfz19_0,hfz19_1,hfz19_2,hfz19_3,hfz19_4⟩:=y5_ BK5;have hnb20:=NB3_1.out;have hnc20:=NB1_3.out;obtain ⟨hcz21_0,hcz21_1,hcz21_2,hcz21_3,hcz21_4⟩:=x5_ BK3;have hfz21_0:=blk_frozen BK3.out 0;have hfz21_1:=blk_frozen BK3.out 1;have hfz21_2:=blk_frozen BK3.out 2;have hfz21_3:=blk_frozen BK3.out 3;have hfz21_4:=blk_frozen BK3.out 4)|((with_reducible refine gate_builtin (b:= .append) (xs:=#[.tmp 27, .tmp 30]) rfl ?_);at_builtin;refine Kd.R_append k37 (w0:=w) w.heap.size rfl (.tmp 27) (.tmp 30) 161 37 (.agg #[(.int .i64 0),(.int .i64 0),(.int .i64 0)]) 24 rfl Try.underlying161 info37 rfl (by decide) (by omega) u5 x5_2 (⟨(rd_T39 l0_0 x18_2).f2.f0,(rd_T39 l0_0 x18_2).f2.f1,(rd_T39 l0_0 x18_2).f2.f2⟩:S37) [.int .i64 ((rd_T39 l0_0 x18_2).f2.f0), .int .i64 ((rd_T39 l0_0 x18_2).f2.f1), .int .i64 ((rd_T39 l0_0 x18_2).f2.f2)] (fun _=>True) (fun _=>False) rfl (by first|(go_simp;done)|(go_simp;rfl)) ?aP (fun _ hk=>hk.elim) ?aF ?aO ?aB ?aS ?aL ?_;(case aP=>exact k37_mkM _ _ _ (⟨(rd_T39 l0_0 x18_2).f2.f0,(rd_T39 l0_0 x18_2).f2.f1,(rd_T39 l0_0 x18_2).f2.f2⟩:S37));(case aB=>exact (zl3_ HB GE1 GE3 GE5));(case aF=>exact (fun _ _=>trivial));(case aO=>exact (by refine zt_ ?_;exact zy_ HO_5 BK5));(case aS=>exact (below_size (zl3_ HB GE1 GE3 GE5)));(case aL=>have:=LMc15.out;omega);intro v7 w22 ho hb hg hat;rw [←Ny6.out] at ho;have n0_:=am_ (blk_grown (g:=gb1) (o:= .cells #[.slice (some ad2) l0_0.length c0_0] 110 (0,0)) (zw_ BK1) hg (Kd.R_ne HO_5.out BK1.out (by decide)));have n1_:=am_ (blk_grown (g:=gb3) (o:= .cells #[.string ((rd_T39 l0_0 x11_1).f0), .string ((rd_T39 l0_0 x11_1).f1), .int .i64 ((rd_T39 l0_0 x11_1).f2.f0), .int .i64 ((rd_T39 l0_0 x11_1).f2.f1), .int .i64 ((rd_T39 l0_0 x11_1).f2.f2)] 39 (0,0)) (zw_ BK3) hg (Kd.R_ne HO_5.out BK3.out (by decide)));have n2_:=am_ (blk_grown (g:=gb5) (o:= .cells #[.string ((rd_T39 l0_0 x18_2).f0), .string ((rd_T39 l0_0 x18_2).f1), .int .i64 ((rd_T39 l0_0 x18_2).f2.f0), .int .i64 ((rd_T39 l0_0 x18_2).f2.f1), .int .i64 ((rd_T39 l0_0 x18_2).f2.f2)] 39 (0,0)) (zw_ BK5) hg (Kd.R_ne HO_5.out BK5.out (by decide)));have n3_:=am_ (hb);have n4_:=am_ (ho);clear BK1;clear BK3;clear BK5;clear HB;clear HO_5;have BK1:=n0_;have BK3:=n1_;have BK5:=n2_;have HB:=n3_;have HO8:=n4_;clear n0_ n1_ n2_ n3_ n4_;clear ho hb hg hat))
      go_roundg k2
      case measure=>have:=HK1.out;have:=HK2.out;omega
      case rel=>exact ⟨(y6),(wrap64 (x18_2+1)),rf_,H',⟨by have:=HK1.out;have:=HK2.out;omega⟩,am_ (zr_ HO8),am_ (zb_ BK1),am_ (zb_ BK3),⟨zl3_ HB GE1 GE3 GE5⟩⟩
     rw [if_neg c11] at H;have c11b0:=decide_eq_false c11;clear c11;replace H:=zbd_ H;obtain ⟨⟨t9,t10,t11⟩,A29,H⟩:=H;try dsimp only at H
     replace H:=zbd_ H;obtain ⟨t12,A30,H⟩:=H;try dsimp only at H
     by_cases c31:t12=true
     ·subst c31;rw [if_pos rfl] at H;have H':=Aside0.mk H;clear H;try go_wp2
      replace HO_5:=am_ (Kd.R_drew HO_5.out);replace BK1:=am_ (blk_drew BK1.out);replace BK3:=am_ (blk_drew BK3.out);replace HB:=am_ (below_drew1 HB.out);obtain ⟨Ao33,co33,eo33⟩:=Kd.R_slice HO_5.out;(first|subst eo33|cases eo33);refine start_ (n:=6) (S:=fun w'=>w'.cell? ⟨gb3,0,none⟩=some (.string ((rd_T39 l0_0 x11_1).f0))∧w'.cell? ⟨gb3,1,none⟩=some (.string ((rd_T39 l0_0 x11_1).f1))∧w'.cell? ⟨gb3,2,none⟩=some (.int .i64 ((rd_T39 l0_0 x11_1).f2.f0))∧w'.cell? ⟨gb3,3,none⟩=some (.int .i64 ((rd_T39 l0_0 x11_1).f2.f1))∧w'.cell? ⟨gb3,4,none⟩=some (.int .i64 ((rd_T39 l0_0 x11_1).f2.f2))) (ds:=[]) (bt_ 6 0) (by kernel_rfl) rfl rfl ⟨(blk_cell BK3.out 0).trans rfl,(blk_cell BK3.out 1).trans rfl,(blk_cell BK3.out 2).trans rfl,(blk_cell BK3.out 3).trans rfl,(blk_cell BK3.out 4).trans rfl⟩ (fun hHeld=> ?_);generalize wr.drew=w32 at HO_5 BK1 BK3 HB hHeld ⊢;refine pure_ (i:=0) (N:=some 33) (v:= ?_) (a':= ?_) (bt_ 6 1) rfl rfl (by kernel_rfl) (fun _ _ _ h=>h) (Or.inl ⟨by rfl, ?_⟩) ?_ ?_;rotate_left
      ·intro w';go_simp
       with_reducible rfl
      rotate_left
      ·simp only [Act.put,List.setIfInBounds_toArray,List.set_cons_zero,List.set_cons_succ,i64_w,i32_w]
       rfl
      refine pure_ (i:=2) (N:=some 35) (v:= ?_) (a':= ?_) (bt_ 6 5) rfl rfl (by kernel_rfl) (fun _ _ _ h=>h) (Or.inl ⟨by rfl, ?_⟩) ?_ ?_;rotate_left
      ·intro w';go_simp
       with_reducible rfl
      rotate_left
      ·simp only [Act.put,List.setIfInBounds_toArray,List.set_cons_zero,List.set_cons_succ,i64_w,i32_w]
       rfl
      refine take_ (i:=3) (N:=some 36) (v:= ?_) (a':= ?_) (bt_ 6 13) rfl rfl (by kernel_rfl) (fun _ _ _ h=>h) (Or.inl ⟨by rfl, ?_⟩) hHeld ?_ ?_;rotate_left
      ·rintro w' ⟨s0,s1,s2,s3,s4⟩;go_simp
       with_reducible rfl
      rotate_left
      ·simp only [Act.put,List.setIfInBounds_toArray,List.set_cons_zero,List.set_cons_succ,i64_w,i32_w]
       rfl
      refine one_ (i:=1) (N:=some 34) (bt_ 6 15) rfl rfl (by kernel_rfl) (by decide) (fun K hK=> ?_);refine gs_ Try.func115 #[.slice Ao33 x5_2.length co33] ?_
      with_reducible refine (vec_Add.calls _ _ x5_2 t9 t10 t11 _ ?side1 ?side2 A29.out).mono ?_
      (case side1=>exact zc_ (Kd.R_reads' HO_5.out).2.2);(case side2=>exact (Kd.R_reads' HO_5.out).2.1);rintro e w34 ⟨rfl,hb⟩;refine ⟨_,rfl, ?_⟩;replace HO_5:=ob_ HO_5 hb;replace BK1:=bb_ BK1 hb;replace BK3:=bb_ BK3 hb;replace HB:=am_ (below_step (zl2_ HB GE1 GE3) hb);(try clear hb);refine hK.out _ _ ⟨(blk_cell BK3.out 0).trans rfl,(blk_cell BK3.out 1).trans rfl,(blk_cell BK3.out 2).trans rfl,(blk_cell BK3.out 3).trans rfl,(blk_cell BK3.out 4).trans rfl⟩ (fun hHeld=> ?_);clear hK K;refine no_ (N:=some 34) ?_;refine one_ (i:=4) (N:=some 37) (bt_ 6 31) rfl rfl (by kernel_rfl) (by decide) (fun K hK=> ?_);refine gs_ Try.func114 #[.agg #[.int .i64 t9, .int .i64 t10, .int .i64 t11], .agg #[.int .i64 ((rd_T39 l0_0 x11_1).f2.f0), .int .i64 ((rd_T39 l0_0 x11_1).f2.f1), .int .i64 ((rd_T39 l0_0 x11_1).f2.f2)]] ?_
      with_reducible refine (vec_Le.calls t9 t10 t11 ((rd_T39 l0_0 x11_1).f2.f0) ((rd_T39 l0_0 x11_1).f2.f1) ((rd_T39 l0_0 x11_1).f2.f2) true _ A30.out).mono ?_
      rintro e w35 ⟨rfl,hb⟩;refine ⟨_,rfl, ?_⟩;replace HO_5:=ob_ HO_5 hb;replace BK1:=bb_ BK1 hb;replace BK3:=bb_ BK3 hb;replace HB:=am_ (below_step (zl2_ HB GE1 GE3) hb);(try clear hb);refine hK.out _ _ ⟨(blk_cell BK3.out 0).trans rfl,(blk_cell BK3.out 1).trans rfl,(blk_cell BK3.out 2).trans rfl,(blk_cell BK3.out 3).trans rfl,(blk_cell BK3.out 4).trans rfl⟩ (fun hHeld=> ?_);clear hK K;refine no_ (N:=some 37) ?_;refine pure_ (i:=5) (N:=some 38) (v:= ?_) (a':= ?_) (bt_ 6 63) rfl rfl (by kernel_rfl) (fun _ _ _ h=>h) (Or.inl ⟨by rfl, ?_⟩) ?_ ?_;rotate_left
      ·intro w';go_simp
       with_reducible rfl
      rotate_left
      ·simp only [Act.put,List.setIfInBounds_toArray,List.set_cons_zero,List.set_cons_succ,i64_w,i32_w]
       rfl
      refine done_ (by kernel_rfl) ?_;try go_wp2
      go_roundg k2
      case measure=>have:=HK1.out;have:=HK2.out;omega
      case rel=>exact ⟨(wrap64 (x11_1+1)),rf_,H',⟨by have:=HK1.out;have:=HK2.out;omega⟩,am_ (zb_ BK1),⟨zl2_ HB GE1 GE3⟩⟩
     replace c31:=Bool.eq_false_iff.mpr c31;subst c31;rw [if_neg (show¬(false=true) by decide)] at H;obtain rfl:=Option.some.inj H;try go_wp2
     replace HO_5:=am_ (Kd.R_drew HO_5.out);replace BK1:=am_ (blk_drew BK1.out);replace BK3:=am_ (blk_drew BK3.out);replace HB:=am_ (below_drew1 HB.out);obtain ⟨Ao37,co37,eo37⟩:=Kd.R_slice HO_5.out;(first|subst eo37|cases eo37);refine start_ (n:=6) (S:=fun w'=>w'.cell? ⟨gb3,0,none⟩=some (.string ((rd_T39 l0_0 x11_1).f0))∧w'.cell? ⟨gb3,1,none⟩=some (.string ((rd_T39 l0_0 x11_1).f1))∧w'.cell? ⟨gb3,2,none⟩=some (.int .i64 ((rd_T39 l0_0 x11_1).f2.f0))∧w'.cell? ⟨gb3,3,none⟩=some (.int .i64 ((rd_T39 l0_0 x11_1).f2.f1))∧w'.cell? ⟨gb3,4,none⟩=some (.int .i64 ((rd_T39 l0_0 x11_1).f2.f2))) (ds:=[]) (bt_ 6 0) (by kernel_rfl) rfl rfl ⟨(blk_cell BK3.out 0).trans rfl,(blk_cell BK3.out 1).trans rfl,(blk_cell BK3.out 2).trans rfl,(blk_cell BK3.out 3).trans rfl,(blk_cell BK3.out 4).trans rfl⟩ (fun hHeld=> ?_);generalize wr.drew=w36 at HO_5 BK1 BK3 HB hHeld ⊢;refine pure_ (i:=0) (N:=some 33) (v:= ?_) (a':= ?_) (bt_ 6 1) rfl rfl (by kernel_rfl) (fun _ _ _ h=>h) (Or.inl ⟨by rfl, ?_⟩) ?_ ?_;rotate_left
     ·intro w';go_simp
      with_reducible rfl
     rotate_left
     ·simp only [Act.put,List.setIfInBounds_toArray,List.set_cons_zero,List.set_cons_succ,i64_w,i32_w]
      rfl
     refine pure_ (i:=2) (N:=some 35) (v:= ?_) (a':= ?_) (bt_ 6 5) rfl rfl (by kernel_rfl) (fun _ _ _ h=>h) (Or.inl ⟨by rfl, ?_⟩) ?_ ?_;rotate_left
     ·intro w';go_simp
      with_reducible rfl
     rotate_left
     ·simp only [Act.put,List.setIfInBounds_toArray,List.set_cons_zero,List.set_cons_succ,i64_w,i32_w]
      rfl
     refine take_ (i:=3) (N:=some 36) (v:= ?_) (a':= ?_) (bt_ 6 13) rfl rfl (by kernel_rfl) (fun _ _ _ h=>h) (Or.inl ⟨by rfl, ?_⟩) hHeld ?_ ?_;rotate_left
     ·rintro w' ⟨s0,s1,s2,s3,s4⟩;go_simp
      with_reducible rfl
     rotate_left
     ·simp only [Act.put,List.setIfInBounds_toArray,List.set_cons_zero,List.set_cons_succ,i64_w,i32_w]
      rfl
     refine one_ (i:=1) (N:=some 34) (bt_ 6 15) rfl rfl (by kernel_rfl) (by decide) (fun K hK=> ?_);refine gs_ Try.func115 #[.slice Ao37 x5_2.length co37] ?_
     with_reducible refine (vec_Add.calls _ _ x5_2 t9 t10 t11 _ ?side1 ?side2 A29.out).mono ?_
     (case side1=>exact zc_ (Kd.R_reads' HO_5.out).2.2);(case side2=>exact (Kd.R_reads' HO_5.out).2.1);rintro e w38 ⟨rfl,hb⟩;refine ⟨_,rfl, ?_⟩;replace HO_5:=ob_ HO_5 hb;replace BK1:=bb_ BK1 hb;replace BK3:=bb_ BK3 hb;replace HB:=am_ (below_step (zl2_ HB GE1 GE3) hb);(try clear hb);refine hK.out _ _ ⟨(blk_cell BK3.out 0).trans rfl,(blk_cell BK3.out 1).trans rfl,(blk_cell BK3.out 2).trans rfl,(blk_cell BK3.out 3).trans rfl,(blk_cell BK3.out 4).trans rfl⟩ (fun hHeld=> ?_);clear hK K;refine no_ (N:=some 34) ?_;refine one_ (i:=4) (N:=some 37) (bt_ 6 31) rfl rfl (by kernel_rfl) (by decide) (fun K hK=> ?_);refine gs_ Try.func114 #[.agg #[.int .i64 t9, .int .i64 t10, .int .i64 t11], .agg #[.int .i64 ((rd_T39 l0_0 x11_1).f2.f0), .int .i64 ((rd_T39 l0_0 x11_1).f2.f1), .int .i64 ((rd_T39 l0_0 x11_1).f2.f2)]] ?_
     with_reducible refine (vec_Le.calls t9 t10 t11 ((rd_T39 l0_0 x11_1).f2.f0) ((rd_T39 l0_0 x11_1).f2.f1) ((rd_T39 l0_0 x11_1).f2.f2) false _ A30.out).mono ?_
     rintro e w39 ⟨rfl,hb⟩;refine ⟨_,rfl, ?_⟩;replace HO_5:=ob_ HO_5 hb;replace BK1:=bb_ BK1 hb;replace BK3:=bb_ BK3 hb;replace HB:=am_ (below_step (zl2_ HB GE1 GE3) hb);(try clear hb);refine hK.out _ _ ⟨(blk_cell BK3.out 0).trans rfl,(blk_cell BK3.out 1).trans rfl,(blk_cell BK3.out 2).trans rfl,(blk_cell BK3.out 3).trans rfl,(blk_cell BK3.out 4).trans rfl⟩ (fun hHeld=> ?_);clear hK K;refine no_ (N:=some 37) ?_;refine pure_ (i:=5) (N:=some 38) (v:= ?_) (a':= ?_) (bt_ 6 63) rfl rfl (by kernel_rfl) (fun _ _ _ h=>h) (Or.inl ⟨by rfl, ?_⟩) ?_ ?_;rotate_left
     ·intro w';go_simp
      with_reducible rfl
     rotate_left
     ·simp only [Act.put,List.setIfInBounds_toArray,List.set_cons_zero,List.set_cons_succ,i64_w,i32_w]
      rfl
     refine done_ (by kernel_rfl) ?_;try go_wp2
     go_ret
     exact ⟨by first|rfl|(simp [errW_none,errW_some]<;>rfl)|(simp [*,errW_none,errW_some]<;>rfl),zl2_ HB GE1 GE3⟩
def wloose (l:List (S39)) (w:S39):Bool:= !decide (w.f1=⟨#[]⟩) && decide (wplace l w.f1<0)
def wflat (l:List (S39)) (w:S39):Bool:=decide (fillR l w.f0=0)
noncomputable def want_Check.f (k:Nat) (l0:List (S39)):Option Int:=open Classical in
 if 120<l0.length then some 4 else if smallW l0 then (if wnames l0 l0 0=0 then (if l0.any (wloose l0)=true then some 2 else if l0.any (wflat l0)=true then some 10 else want_list_sums.f k l0) else some (wnames l0 l0 0)) else none
open Classical in
theorem want_Check.mono: ∀a0 k,LeO (want_Check.f k a0) (want_Check.f (k+1) a0):=by
 intro a0 k;unfold want_Check.f
 repeat' with_reducible first|apply want_list_sums.mono|apply LeO.refl|apply LeO.ite|refine LeO.bind ?_ fun _=> ?_
theorem any_drop {l:List S39} (p:S39→Bool) {i:Nat} (h:i<l.length):(l.drop i).any p=(p (rd_T39 l i)||(l.drop (i+1)).any p):=by
 rw [List.drop_eq_getElem_cons h,List.any_cons]
 have e:rd_T39 l (i:Int)=l[i]:=by
  show l.getD (i:Int).toNat _=_
  rw [Int.toNat_natCast,List.getD_eq_getElem?_getD,List.getElem?_eq_getElem h,Option.getD_some]
 rw [e]
set_option maxHeartbeats 8000000 in
set_option maxRecDepth 100000 in
theorem want_Check.calls (k:Nat) (A0:Option Addr) (c0:Nat) (l0:List (S39)) (r:Int) (w:World) (hr0:Kd.C k39 w A0 l0.length l0) (hc0:l0.length≤c0) (h:want_Check.f k l0=some r):
    Calls Try.prog 26 #[.slice A0 l0.length c0] w fun e w'=>e= .returned (.int .i64 r)∧Below w.heap.size w w':=by
  obtain ⟨l,rfl⟩: ∃l,l=l0:=⟨_,rfl⟩;obtain ⟨A,rfl⟩: ∃A,A=A0:=⟨_,rfl⟩;obtain ⟨c,rfl⟩: ∃c,c=c0:=⟨_,rfl⟩;have hu113:=Try.underlying113;have hu110:=Try.underlying110;have hu39:=Try.underlying39;unfold want_Check.f at h;have HR:=Aside0.mk hr0;have HC:=Aside0.mk hc0;have HB:=am_ (Below.refl w.heap.size w);clear hr0 hc0;by_cases h1:120<l.length
  · rw [if_pos h1] at h
    obtain rfl:=Option.some.inj h
    have hz:(120:Int)<(l.length:Int):=by omega
    clear h
    go_enter Try.func26,Try.ntmps26
    go_wp2
    go_ret
    exact ⟨rfl,HB.out⟩
  rw [if_neg h1] at h
  split at h
  case isFalse=>cases h
  case isTrue hs=>
  have hl:l.length≤1000:=by omega
  have hz: ¬(120:Int)<(l.length:Int):=by omega
  have HS:=Aside0.mk hs;have HL:=Aside0.mk hl;have HF:=Aside0.mk h;clear hs hl h1 h;go_enter Try.func26,Try.ntmps26;by_cases hn:wnames l l 0=0
  case neg=>
    rw [if_neg hn] at HF;have hnb:(wnames l l 0 !=0)=true:=bne_iff_ne.mpr hn;clear hn;go_wp2_with (first|((with_reducible refine gate_dst (N:=15) rfl ?_);refine bx_ (N:=15) (cs:=#[.slice A l.length c, .map none]) (t:=113) ?_;intro gb15 hg w1 hbox hb;have BK15:=am_ (hbox);have GE15:=am_ ((by rw [hg];exact below_size HB.out:w.heap.size≤gb15));replace HB:=am_ (below_step HB.out hb);have EQ15:=am_ (hg);clear hb hbox hg;have cgb15_0:=zz_ BK15 0)|(go_at_call 72;refine (wantNames_calls A c l _ (Kd.C_below HR.out HB.out) HC.out (by have:=HL.out;omega)).mono ?_;rintro e w2 ⟨rfl,hb⟩;have n0_:=am_ (below_step HB.out hb);have n1_:=am_ (blk_below BK15.out hb);clear HB BK15 hb cgb15_0;have HB:=n0_;have BK15:=n1_;clear n0_ n1_))
    go_ret
    exact ⟨congrArg (fun z=>Ending.returned (.int .i64 z)) (Option.some.inj HF.out),HB.out⟩
  rw [if_pos hn] at HF;have hnb:(wnames l l 0 !=0)=false:=by rw [hn];rfl
  clear hn;go_wp2_with (first|((with_reducible refine gate_dst (N:=15) rfl ?_);refine bx_ (N:=15) (cs:=#[.slice A l.length c, .map none]) (t:=113) ?_;intro gb15 hg w1 hbox hb;have BK15:=am_ (hbox);have GE15:=am_ ((by rw [hg];exact below_size HB.out:w.heap.size≤gb15));replace HB:=am_ (below_step HB.out hb);have EQ15:=am_ (hg);clear hb hbox hg;have cgb15_0:=zz_ BK15 0)|(go_at_call 72;refine (wantNames_calls A c l _ (Kd.C_below HR.out HB.out) HC.out (by have:=HL.out;omega)).mono ?_;rintro e w2 ⟨rfl,hb⟩;have n0_:=am_ (below_step HB.out hb);have n1_:=am_ (blk_below BK15.out hb);clear HB BK15 hb cgb15_0;have HB:=n0_;have BK15:=n1_;clear n0_ n1_))
  clear hz hnb;go_loopg [26] l.length (fun kq v26 w'=> ∃i:Nat,v26= .int .i64 i∧i≤l.length∧l.length - i≤kq∧Aside0 (Below w.heap.size w w')∧Aside0 (w'.heap[gb15]?=some (.cells #[.slice A l.length c, .map none] 113 (0,0)))∧Aside0 (l.any (wloose l)=(l.drop i).any (wloose l)))
  case atStart=>exact ⟨0,rfl,by omega,by omega,HB,BK15,⟨rfl⟩⟩
  case round=>
    clear HB BK15;obtain ⟨i,rfl,hil,hkq,HB,BK15,HA⟩:=hrel;by_cases hlt:i<l.length;rotate_left
    · obtain rfl : i = l.length := by omega
      have a: ¬l.any (wloose l)=true:=by rw [HA.out,List.drop_length];simp
      rw [if_neg a] at HF
      clear a HA
      have cb15_0:=zz_ BK15 0
      go_wp2_with (go_at_call 74;refine (wantFill_calls w _ gb15 A c l none BK15.out GE15.out HB.out HR.out HC.out HL.out HS.out).mono ?_;rintro e w3 ⟨rfl,mb,n,hbk,hm,hb,_⟩;clear BK15 HB;have BK15:=Aside0.mk hbk;have MP:=Aside0.mk hm;have HB:=Aside0.mk hb;clear hbk hm hb cb15_0)
      go_loopg [48] l.length (fun kq v48 w'=> ∃i:Nat,v48= .int .i64 i∧i≤l.length∧l.length - i≤kq∧Aside0 (Below w.heap.size w w')∧Aside0 (w'.heap[gb15]?=some (.cells #[.slice A l.length c, .map (some mb)] 113 (0,0)))∧Aside0 (MapAt w' mb n (fillR l))∧Aside0 (l.any (wflat l)=(l.drop i).any (wflat l)))
      case atStart=>exact ⟨0,rfl,by omega,by omega,HB,BK15,MP,⟨rfl⟩⟩
      case round=>
        clear HB BK15 MP;obtain ⟨i,rfl,hil,hkq,HB,BK15,MP,HA⟩:=hrel;by_cases hlt:i<l.length;rotate_left
        · obtain rfl : i = l.length := by omega
          have a: ¬l.any (wflat l)=true:=by rw [HA.out,List.drop_length];simp
          rw [if_neg a] at HF
          clear a HA
          have cb15_0:=zz_ BK15 0
          go_wp2_with (go_at_call 75;refine (want_list_sums.calls k A c l r _ (Kd.C_below HR.out HB.out) HC.out HF.out).mono ?_;rintro e w6 ⟨rfl,hb⟩;have n0_:=am_ (below_step HB.out hb);clear HB hb BK15 MP cb15_0;have HB:=n0_;clear n0_)
          go_ret
          exact ⟨rfl,HB.out⟩


        have hltz:(i:Int)<(l.length:Int):=by omega
        obtain ⟨x,hx⟩: ∃x:Int,x=(i:Int):=⟨_,rfl⟩;have HX0:=am_ (show 0≤x by omega);have HX1:=am_ (show x<(l.length:Int) by omega);have HD:=am_ (any_drop (wflat l) hlt);rw [←hx] at HD;have HXI:=Aside0.mk hx;rw [←hx];have hltx:x<(l.length:Int):=HX1.out;have SM:=am_ (smallW_rd HS.out x);clear hltz hx;have p6:0≤x:=HX0.out;have q6:x<(l.length:Int):=HX1.out;obtain ⟨ad,e6,k0,k1,k2,k3,k4⟩:=at_T39 HR.out x p6 q6;cases e6;have k0:=zx_ HB k0;have k1:=zx_ HB k1;have k2:=zx_ HB k2;have k3:=zx_ HB k3;have k4:=zx_ HB k4;replace p6:=eq_true p6;replace q6:=eq_true q6;have BK15_:=BK15
        go_wp2_with (first|((with_reducible refine gate_dst (N:=8) rfl ?_);refine bx_ (N:=8) (cs:=#[.string ⟨#[]⟩, .string ⟨#[]⟩, .int .i64 0, .int .i64 0, .int .i64 0]) (t:=39) ?_;intro gb8 hg w4 hbox hb;replace BK15:=am_ (blk_below BK15.out hb);have BK8:=am_ (hbox);have GE8:=am_ ((by rw [hg];exact below_size HB.out:w.heap.size≤gb8));replace HB:=am_ (below_step HB.out hb);have EQ8:=am_ (hg);have NM:=am_ (show mb≠gb8 from by have:=MP.out.lt;rw [hg];exact Nat.ne_of_lt this);have m_:=am_ (MP.out.below hb);clear MP;have MP:=m_;clear m_;have NE:=am_ (show gb15≠gb8 from by have:=blk_lt BK15_.out;rw [hg];exact Nat.ne_of_lt this);clear hb hbox hg;have cgb8_0:=zz_ BK8 0;have cgb8_1:=zz_ BK8 1;have cgb8_2:=zz_ BK8 2;have cgb8_3:=zz_ BK8 3;have cgb8_4:=zz_ BK8 4)|((with_reducible refine gate_store (t:=39) (p:=8) (v:= .tmp 51) rfl ?_);refine store_all BK8.out 39 (.tmp 8) (.tmp 51) rfl rfl rfl (.agg #[.string (rd_T39 l x).f0, .string (rd_T39 l x).f1, .int .i64 (rd_T39 l x).f2.f0, .int .i64 (rd_T39 l x).f2.f1, .int .i64 (rd_T39 l x).f2.f2]) [.string (rd_T39 l x).f0, .string (rd_T39 l x).f1, .int .i64 (rd_T39 l x).f2.f0, .int .i64 (rd_T39 l x).f2.f1, .int .i64 (rd_T39 l x).f2.f2] rfl rfl rfl (by kernel_rfl) rfl (by intro q hq;simp only [List.mem_cons,List.not_mem_nil,or_false] at hq;rcases hq with rfl|rfl|rfl|rfl|rfl<;>rfl) ?_;intro w5 hbk hg;clear cgb8_0 cgb8_1 cgb8_2 cgb8_3 cgb8_4;replace BK15:=am_ (blk_put_other BK15.out hg (NE.out));replace HB:=am_ (below_put HB.out (below_size HB.out) hg GE8.out);replace MP:=am_ (MP.out.other hg NM.out);replace BK8:=am_ (hbk);clear hbk hg;have c8_0:=zz_ BK8 0))
        clear k0 k1 k2 k3 k4 p6 q6;have cb_1:=zz_ BK15 1;have z0:=fun (n_:Nat)=>(show (w5.drewN n_).cell? _=some _ from cb_1)
        have z1:=fun (n_:Nat)=>(show (w5.drewN n_).cell? _=some _ from c8_0)
        have z2:=fun (n_:Nat)=>MP.out.look Try.underlying111 SM.out.1 (w5.drewN n_) rfl
        by_cases e2:fillR l (rd_T39 l x).f0=0
        · have HW := am_ (show wflat l (rd_T39 l x) = true from decide_eq_true e2)
          have e2b:(fillR l (rd_T39 l x).f0==0)=true:=by rw [e2];rfl
          clear e2
          go_quiet (fail)
          try go_wp2
          go_ret
          refine ⟨?_,pw_below_drewN HB.out _⟩
          have a:l.any (wflat l)=true:=by rw [HA.out,HD.out,HW.out,Bool.true_or]
          have f:=HF.out
          rw [if_pos a] at f
          exact congrArg (fun z=>Ending.returned (.int .i64 z)) (Option.some.inj f)
        have HW:=am_ (show wflat l (rd_T39 l x)=false from decide_eq_false e2);have e2b:(fillR l (rd_T39 l x).f0==0)=false:=by rw [beq_eq_false_iff_ne];exact e2
        clear e2;go_quiet (fail)
        try go_wp2
        clear z0 z1 z2 cb_1 c8_0;have n0_:=am_ (blk_drewN BK15.out nq);have n1_:=am_ (MP.out.kept (w':=w5.drewN nq) rfl);have n2_:=am_ (pw_below_drewN HB.out nq);clear BK15 MP HB BK8 BK15_ NE NM;have BK15:=n0_;have MP:=n1_;have HB:=n2_;clear n0_ n1_ n2_;generalize w5.drewN nq=w8 at BK15 MP HB ⊢;go_roundg (l.length - (i+1))
        case measure=>omega
        case rel=>exact ⟨i+1,by rw [HXI.out,wnx (by have:=HL.out;omega)],by omega,by omega,HB,BK15,MP,⟨by rw [HA.out,HD.out,HW.out,Bool.false_or]⟩⟩
    have hltz:(i:Int)<(l.length:Int):=by omega
    obtain ⟨x,hx⟩: ∃x:Int,x=(i:Int):=⟨_,rfl⟩;have HX0:=am_ (show 0≤x by omega);have HX1:=am_ (show x<(l.length:Int) by omega);have HD:=am_ (any_drop (wloose l) hlt);rw [←hx] at HD;have HXI:=Aside0.mk hx;rw [←hx];have hltx:x<(l.length:Int):=HX1.out;clear hltz hx;have p6:0≤x:=HX0.out;have q6:x<(l.length:Int):=HX1.out;obtain ⟨ad,e6,k0,k1,k2,k3,k4⟩:=at_T39 HR.out x p6 q6;cases e6;have k0:=zx_ HB k0;have k1:=zx_ HB k1;have k2:=zx_ HB k2;have k3:=zx_ HB k3;have k4:=zx_ HB k4;replace p6:=eq_true p6;replace q6:=eq_true q6;have BK15_:=BK15;by_cases e1:(rd_T39 l x).f1=⟨#[]⟩
    · have hE : (rd_T39 l x).f1.toList.isEmpty = true := by rw [e1, ByteArray.toList_eq]; rfl
      have HW:=am_ (show wloose l (rd_T39 l x)=false by unfold wloose;rw [decide_eq_true e1];rfl)
      clear e1
      go_wp2_with (first|((with_reducible refine gate_dst (N:=6) rfl ?_);refine bx_ (N:=6) (cs:=#[.string ⟨#[]⟩, .string ⟨#[]⟩, .int .i64 0, .int .i64 0, .int .i64 0]) (t:=39) ?_;intro gb6 hg w4 hbox hb;replace BK15:=am_ (blk_below BK15.out hb);have BK6:=am_ (hbox);have GE6:=am_ ((by rw [hg];exact below_size HB.out:w.heap.size≤gb6));replace HB:=am_ (below_step HB.out hb);have EQ6:=am_ (hg);have NE:=am_ (show gb15≠gb6 from by have:=blk_lt BK15_.out;rw [hg];exact Nat.ne_of_lt this);clear hb hbox hg;have cgb6_0:=zz_ BK6 0;have cgb6_1:=zz_ BK6 1;have cgb6_2:=zz_ BK6 2;have cgb6_3:=zz_ BK6 3;have cgb6_4:=zz_ BK6 4)|((with_reducible refine gate_store (t:=39) (p:=6) (v:= .tmp 29) rfl ?_);refine store_all BK6.out 39 (.tmp 6) (.tmp 29) rfl rfl rfl (.agg #[.string (rd_T39 l x).f0, .string (rd_T39 l x).f1, .int .i64 (rd_T39 l x).f2.f0, .int .i64 (rd_T39 l x).f2.f1, .int .i64 (rd_T39 l x).f2.f2]) [.string (rd_T39 l x).f0, .string (rd_T39 l x).f1, .int .i64 (rd_T39 l x).f2.f0, .int .i64 (rd_T39 l x).f2.f1, .int .i64 (rd_T39 l x).f2.f2] rfl rfl rfl (by kernel_rfl) rfl (by intro q hq;simp only [List.mem_cons,List.not_mem_nil,or_false] at hq;rcases hq with rfl|rfl|rfl|rfl|rfl<;>rfl) ?_;intro w5 hbk hg;clear cgb6_0 cgb6_1 cgb6_2 cgb6_3 cgb6_4;replace BK15:=am_ (blk_put_other BK15.out hg (NE.out));replace HB:=am_ (below_put HB.out (below_size HB.out) hg GE6.out);replace BK6:=am_ (hbk);clear hbk hg;have c6_1:=zz_ BK6 1))
      clear k0 k1 k2 k3 k4 p6 q6
      have z1:=fun (n_:Nat)=>(show (w5.drewN n_).cell? _=some _ from c6_1)
      go_quiet (fail)
      try go_wp2
      clear z1 c6_1
      have n0_:=am_ (blk_drewN BK15.out nq)
      have n2_:=am_ (pw_below_drewN HB.out nq)
      clear BK15 HB BK6 BK15_ NE
      have BK15:=n0_
      have HB:=n2_
      clear n0_ n2_
      generalize w5.drewN nq=w8 at BK15 HB ⊢
      go_roundg (l.length - (i+1))
      case measure=>omega
      case rel=>exact ⟨i+1,by rw [HXI.out,wnx (by have:=HL.out;omega)],by omega,by omega,HB,BK15,⟨by rw [HA.out,HD.out,HW.out,Bool.false_or]⟩⟩
    have hE:(rd_T39 l x).f1.toList.isEmpty=false:=by
      cases q:(rd_T39 l x).f1.toList with
      |nil=>exact absurd (ByteArray.ext (Array.toList_inj.1 (by rw [←ByteArray.toList_eq,q]))) e1
      |cons _ _=>rfl
    have E1:=Aside0.mk e1;clear e1;go_wp2_with (first|((with_reducible refine gate_dst (N:=6) rfl ?_);refine bx_ (N:=6) (cs:=#[.string ⟨#[]⟩, .string ⟨#[]⟩, .int .i64 0, .int .i64 0, .int .i64 0]) (t:=39) ?_;intro gb6 hg w4 hbox hb;replace BK15:=am_ (blk_below BK15.out hb);have BK6:=am_ (hbox);have GE6:=am_ ((by rw [hg];exact below_size HB.out:w.heap.size≤gb6));replace HB:=am_ (below_step HB.out hb);have EQ6:=am_ (hg);have NE:=am_ (show gb15≠gb6 from by have:=blk_lt BK15_.out;rw [hg];exact Nat.ne_of_lt this);clear hb hbox hg;have cgb6_0:=zz_ BK6 0;have cgb6_1:=zz_ BK6 1;have cgb6_2:=zz_ BK6 2;have cgb6_3:=zz_ BK6 3;have cgb6_4:=zz_ BK6 4)|((with_reducible refine gate_store (t:=39) (p:=6) (v:= .tmp 29) rfl ?_);refine store_all BK6.out 39 (.tmp 6) (.tmp 29) rfl rfl rfl (.agg #[.string (rd_T39 l x).f0, .string (rd_T39 l x).f1, .int .i64 (rd_T39 l x).f2.f0, .int .i64 (rd_T39 l x).f2.f1, .int .i64 (rd_T39 l x).f2.f2]) [.string (rd_T39 l x).f0, .string (rd_T39 l x).f1, .int .i64 (rd_T39 l x).f2.f0, .int .i64 (rd_T39 l x).f2.f1, .int .i64 (rd_T39 l x).f2.f2] rfl rfl rfl (by kernel_rfl) rfl (by intro q hq;simp only [List.mem_cons,List.not_mem_nil,or_false] at hq;rcases hq with rfl|rfl|rfl|rfl|rfl<;>rfl) ?_;intro w5 hbk hg;clear cgb6_0 cgb6_1 cgb6_2 cgb6_3 cgb6_4;replace BK15:=am_ (blk_put_other BK15.out hg (NE.out));replace HB:=am_ (below_put HB.out (below_size HB.out) hg GE6.out);replace BK6:=am_ (hbk);clear hbk hg;have c6_1:=zz_ BK6 1))
    clear k0 k1 k2 k3 k4 p6 q6 c6_1;have n0_:=am_ (blk_drew BK15.out);have n1_:=am_ (blk_drew BK6.out);have n2_:=am_ (below_drew1 HB.out);clear BK15 BK6 HB BK15_ NE;have BK15:=n0_;have BK6:=n1_;have HB:=n2_;clear n0_ n1_ n2_;refine start_ (n:=13) (S:=fun w'=>w'.cell? ⟨gb6,1,none⟩=some (.string (rd_T39 l x).f1)∧w'.cell? ⟨gb15,0,none⟩=some (.slice (some ad) l.length c)) (ds:=[]) (bs_ 13 0) (by kernel_rfl) rfl rfl ⟨(blk_cell BK6.out 1).trans rfl,(blk_cell BK15.out 0).trans rfl⟩ (fun hHeld=> ?_);generalize w5.drew=w9 at BK15 BK6 HB hHeld ⊢;refine pv_ (i:=0) (N:=some 30) (bs_ 13 1) ?_;refine tv_ (i:=1) (N:=some 31) (bs_ 13 2) hHeld ?_;refine pv_ (i:=2) (N:=some 32) (bs_ 13 3) ?_;refine pv_ (i:=3) (N:=some 33) (bs_ 13 4) ?_;refine pv_ (i:=4) (N:=some 34) (bs_ 13 5) ?_;refine pv_ (i:=5) (N:=some 35) (bs_ 13 6) ?_;refine pv_ (i:=6) (N:=some 36) (bs_ 13 7) ?_;refine tv_ (i:=7) (N:=some 37) (bs_ 13 8) hHeld ?_;refine pv_ (i:=8) (N:=some 38) (bs_ 13 9) ?_;refine tv_ (i:=9) (N:=some 39) (bs_ 13 10) hHeld ?_;refine one_ (i:=10) (N:=some 40) (bs_ 13 11) rfl rfl (by kernel_rfl) (by decide) (fun K hK=> ?_);refine goes_ Try.func73 (by kernel_rfl) rfl #[.agg #[.slice (some ad) l.length c], .string (rd_T39 l x).f1] (by rfl) rfl rfl (by (try simp only [List.map_toArray,List.map_cons,List.map_nil]);rfl) ?_;refine (wantFind_calls (some ad) c l (rd_T39 l x).f1 _ (Kd.C_below HR.out HB.out) HC.out).mono ?_;rintro e w10 ⟨rfl,hb⟩;have n0_:=am_ (blk_below BK15.out hb)
    have n1_:=am_ (blk_below BK6.out hb);have n2_:=am_ (below_step HB.out hb);clear BK15 BK6 HB hb;have BK15:=n0_;have BK6:=n1_;have HB:=n2_;clear n0_ n1_ n2_;refine ⟨_,rfl, ?_⟩;refine hK.out _ _ ⟨(blk_cell BK6.out 1).trans rfl,(blk_cell BK15.out 0).trans rfl⟩ (fun hHeld=> ?_);clear hK K;refine norm_ (a':= ?_) ?_ ?_;rotate_left
    · show Act.put _ (some 40) _ = _
      simp only [Act.put,List.setIfInBounds_toArray,List.set_cons_zero,List.set_cons_succ,i64_w,i32_w]
      rfl
    refine pv_ (i:=11) (N:=some 41) (bs_ 13 12) ?_;refine pv_ (i:=12) (N:=some 42) (bs_ 13 13) ?_;refine done_ (by kernel_rfl) ?_;by_cases e2:wplace l (rd_T39 l x).f1<0;rotate_left
    · have HW := am_ (show wloose l (rd_T39 l x) = false by unfold wloose; rw [decide_eq_false e2, Bool.and_false])
      go_wp2
      go_roundg (l.length - (i+1))
      case measure=>omega
      case rel=>exact ⟨i+1,by rw [HXI.out,wnx (by have:=HL.out;omega)],by omega,by omega,HB,BK15,⟨by rw [HA.out,HD.out,HW.out,Bool.false_or]⟩⟩
    have HW:=am_ (show wloose l (rd_T39 l x)=true by unfold wloose;rw [decide_eq_false E1.out,decide_eq_true e2];rfl);go_wp2
    go_ret
    refine ⟨?_,HB.out⟩;have a:l.any (wloose l)=true:=by rw [HA.out,HD.out,HW.out,Bool.true_or]
    have f:=HF.out;rw [if_pos a] at f;exact congrArg (fun z=>Ending.returned (.int .i64 z)) (Option.some.inj f)
end Go.Proofs.Ytahidkjncljkaaa.Print

namespace Go.Proofs.Ytahidkjncljkaaa.Print
open Go.RowKit Go.Proofs.YtahidkjncljkaaaW.PrintWords Go.Proofs.YtahidkjncljkaaaW.PrintLast
theorem wplace_eq (l:List Want) (n:ByteArray):wplace l n=wfnd l n:=rfl
theorem wmay_eq (w:Want):wmay w=mayW w:=by
 unfold wmay mayW;rw [Bool.eq_iff_iff,decide_eq_true_iff,decide_eq_true_iff,and_assoc]
theorem wfnd_at {pre ws:List Want} {w:Want}:wfnd (pre++w::ws) w.f0=pre.length↔lookW pre w.f0=none:=by
  obtain ⟨x,hx⟩: ∃x,lookW (pre++w::ws) w.f0=some x:=by
    cases h:lookW (pre++w::ws) w.f0 with
    |some x=>exact ⟨x,rfl⟩
    |none=>exact absurd rfl (lookW_none.1 h w (by simp))
  obtain ⟨j,h1,h2,h3,h4,h5⟩:=wfnd_some hx;rw [h2];have hw:(pre++w::ws).getD pre.length zWant=w:=by rw [List.getD_eq_getElem?_getD];simp
  have hj:j≤pre.length:=by
    by_cases c:j≤pre.length
    · exact c
    exact absurd (by rw [hw]) (h5 pre.length (by omega))
  rw [lookW_none]
  constructor
  · intro e y hy q
    obtain ⟨m,hm,rfl⟩:=List.getElem_of_mem hy
    refine h5 m (by omega) ?_
    rw [List.getD_eq_getElem?_getD,List.getElem?_append_left hm,List.getElem?_eq_getElem hm]
    exact q
  intro q;by_cases c:j=pre.length
  · rw [c]
  have hlt:j<pre.length:=by omega
  refine absurd ?_ (q pre[j] (List.getElem_mem hlt));rw [List.getD_eq_getElem?_getD,List.getElem?_append_left hlt,List.getElem?_eq_getElem hlt] at h3;rw [show pre[j]=x from h3];exact h4
theorem wnames_ph1 {l:List Want}: ∀(ws pre:List Want),pre++ws=l→wnames l ws pre.length=ph1 pre ws
  |[],pre,_=>rfl
  | w :: ws, pre, h => by
    unfold wnames ph1;rw [wmay_eq,wplace_eq];by_cases c:mayW w=true;rotate_left
    · rw [if_neg c,if_neg c]
    rw [if_pos c,if_pos c];by_cases d:lookW pre w.f0=none
    · rw [if_pos (by rw [← h]; exact wfnd_at.2 d), if_neg (by rw [d]; simp)]
      have:=wnames_ph1 (l:=l) ws (pre++ [w]) (by rw [←h];simp)
      rwa [List.length_append,List.length_singleton] at this
    rw [if_neg (by rw [←h];exact fun q=>d (wfnd_at.1 q)),if_pos]
    cases e:lookW pre w.f0 with
    |none=>exact absurd e d
    |some _=>rfl
theorem wnames_eq (l:List Want):wnames l l 0=ph1 [] l:=wnames_ph1 l [] rfl
theorem wloose_eq (l:List Want):wloose l=noPar l:=by
 funext w
 unfold wloose noPar;rw [wplace_eq,Bool.eq_iff_iff]
 simp [wfnd_neg]
structure GoodD (l:List Want) (f:ByteArray→Int):Prop where
 or: ∀n,f n=0∨(0<depR l n∧f n=depR l n)
theorem lookW_self {l:List Want} (hn:(l.map (·.f0)).Nodup) {w:Want} (hw:w∈l):lookW l w.f0=some w:=by
  unfold lookW
  induction l with
  |nil=>cases hw
  | cons x l ih =>
    rw [List.map_cons,List.nodup_cons] at hn;rw [List.find?_cons];by_cases e:x.f0=w.f0
    · rw [decide_eq_true e]
      rcases List.mem_cons.1 hw with rfl|hw
      · rfl
      exact absurd (e▸List.mem_map_of_mem hw) hn.1
    rw [decide_eq_false e]
    rcases List.mem_cons.1 hw with rfl|hw
    · exact absurd rfl e
    exact ih hn.2 hw
theorem depR_up {l:List Want} (hp:ParW l) {w:Want} (hx:lookW l w.f0=some w) (h:w.f1=⟨#[]⟩∨0<depR l w.f1):depR l w.f0=depR l w.f1+1:=by
  have c: ∃us,ChainW l w.f1 us:=by
    by_cases c: ∃us,ChainW l w.f1 us
    · exact c
    rcases h with h|h
    · exact ⟨[],by rw [h];exact chainW_nil hp.root⟩
    rw [depR_none hp (fun us k=>c ⟨us,k⟩)] at h;omega
  obtain ⟨us,c⟩:=c;rw [depR_chain hp c,depR_chain hp (chainW_cons hx c),List.length_cons]
  omega
theorem small_dep {l:List Want} (hl:l.length≤1000) (hp:ParW l) (n:ByteArray) (h:0<depR l n):wrap64 (depR l n+1)=depR l n+1:=by
 have:=depR_le hp n
 exact w64 (by omega) (by omega)
theorem fstep_at {l:List Want} (hl:l.length≤1000) (hp:ParW l) (hn:(l.map (·.f0)).Nodup) {f:ByteArray→Int} (G:GoodD l f) {w:Want} (hw:w∈l) (n:ByteArray):fstep f w n=f n∨(0<depR l n∧fstep f w n=depR l n):=by
  have hx:=lookW_self hn hw;unfold fstep;by_cases e:w.f1=⟨#[]⟩
  · rw [if_pos e]
    unfold updM
    by_cases c:n=w.f0
    rotate_left
    · rw [if_neg c];exact .inl rfl
    rw [if_pos c,c]
    have:=depR_up hp hx (.inl e)
    rw [e,depR_root hp] at this
    exact .inr ⟨by omega,by omega⟩
  rw [if_neg e];by_cases d:f w.f1>0;rotate_left
  · rw [if_neg d];exact .inl rfl
  rw [if_pos d];unfold updM;by_cases c:n=w.f0;rotate_left
  · rw [if_neg c];exact .inl rfl
  rw [if_pos c,c];have g:=G.or w.f1;have g':0<depR l w.f1∧f w.f1=depR l w.f1:=g.resolve_left (by omega);rw [g'.2,small_dep hl hp _ g'.1,depR_up hp hx (.inr g'.1)];exact .inr ⟨by omega,rfl⟩
theorem fstep_good {l:List Want} (hl:l.length≤1000) (hp:ParW l) (hn:(l.map (·.f0)).Nodup) {f:ByteArray→Int} (G:GoodD l f) {w:Want} (hw:w∈l):GoodD l (fstep f w):=⟨fun n=>by
  rcases fstep_at hl hp hn G hw n with h|h
  · rw [h];exact G.or n
  exact .inr h⟩
theorem fstep_keep {l:List Want} (hl:l.length≤1000) (hp:ParW l) (hn:(l.map (·.f0)).Nodup) {f:ByteArray→Int} (G:GoodD l f) {w:Want} (hw:w∈l) {n:ByteArray} (h:0<depR l n) (q:f n=depR l n):fstep f w n=depR l n:=by
  rcases fstep_at hl hp hn G hw n with h|h
  · rw [h,q]
  exact h.2
theorem fstep_hit {l:List Want} (hl:l.length≤1000) (hp:ParW l) (hn:(l.map (·.f0)).Nodup) {f:ByteArray→Int} (G:GoodD l f) {w:Want} (hw:w∈l) (h:0<depR l w.f0) (q:0<depR l w.f1→f w.f1=depR l w.f1):fstep f w w.f0=depR l w.f0:=by
  have hx:=lookW_self hn hw;obtain ⟨h1,h2,h3⟩:=depR_some hp hx h;unfold fstep;by_cases e:w.f1=⟨#[]⟩
  · rw [if_pos e]
    unfold updM
    rw [if_pos rfl,h1,e,depR_root hp]
    rfl
  have d:=h3 e;rw [if_neg e,if_pos (by rw [q d];exact d)];unfold updM;rw [if_pos rfl,q d,small_dep hl hp _ d,h1]
theorem fround_all {l:List Want} (hl:l.length≤1000) (hp:ParW l) (hn:(l.map (·.f0)).Nodup): ∀(ws:List Want) (f:ByteArray→Int),(∀w∈ws,w∈l)→GoodD l f→GoodD l (ws.foldl fstep f)∧(∀n,0<depR l n→f n=depR l n→ws.foldl fstep f n=depR l n)∧
    ∀w∈ws,0<depR l w.f0→(0<depR l w.f1→f w.f1=depR l w.f1)→ws.foldl fstep f w.f0=depR l w.f0
  |[],f,_,G=>⟨G,fun _ _ h=>h,fun w hw=>by cases hw⟩
  | x :: ws, f, hs, G => by
    have hx:=hs x (by simp);obtain ⟨a,b,c⟩:=fround_all hl hp hn ws (fstep f x) (fun w hw=>hs w (by simp [hw])) (fstep_good hl hp hn G hx);rw [List.foldl_cons];refine ⟨a,fun n h q=>b n h (fstep_keep hl hp hn G hx h q),fun w hw h q=> ?_⟩
    rcases List.mem_cons.1 hw with rfl|hw
    · exact b _ h (fstep_hit hl hp hn G hx h q)
    exact c w hw h (fun d=>fstep_keep hl hp hn G hx d (q d))
theorem frounds_all {l:List Want} (hl:l.length≤1000) (hp:ParW l) (hn:(l.map (·.f0)).Nodup): ∀(m r:Nat) (f:ByteArray→Int),GoodD l f→(∀n,0<depR l n→depR l n≤r→f n=depR l n)→GoodD l (frounds l m f)∧ ∀n,0<depR l n→depR l n≤(r+m:Nat)→frounds l m f n=depR l n
  |0,r,f,G,h=>⟨G,h⟩
  | m + 1, r, f, G, h => by
    obtain ⟨a,b,c⟩:=fround_all hl hp hn l f (fun _ h=>h) G
    have k:=frounds_all hl hp hn m (r+1) (fround l f) a (fun n d e=>by
      cases hx:lookW l n with
      |none=>rw [depR_absent hp hx] at d;omega
      | some x =>
        obtain ⟨hm,hf⟩:=lookW_mem hx;subst hf;obtain ⟨h1,h2,h3⟩:=depR_some hp hx d;exact c x hm d (fun d2=>h _ d2 (by omega)))
    refine ⟨k.1,fun n d e=>k.2 n d (by omega)⟩
theorem fillR_eq {l:List Want} (hl:l.length≤1000) (hp:ParW l) (hn:(l.map (·.f0)).Nodup) (n:ByteArray):fillR l n=if 0<depR l n then depR l n else 0:=by
  obtain ⟨a,b⟩:=frounds_all hl hp hn l.length 0 (fun _=>0) ⟨fun _=> .inl rfl⟩ (fun n d e=>by omega)
  show frounds l l.length _ n=_
  by_cases d:0<depR l n
  · rw [if_pos d]
    exact b n d (by have:=depR_le hp n;omega)
  rw [if_neg d]
  rcases a.or n with h|h
  · exact h
  exact absurd h.1 d
theorem sums_l1 {l:List Want} (hl:l.length≤120) (hm: ∀w∈l,MayP w.f2) {i:Nat} (hi:i<l.length) {r:Int} (hr:LeP (sumW l l[i].f0) l[i].f2→Ev (fun k=>want_list_sums.l0 k l (l.length:Int) ((i+1:Nat):Int) l) r) (hb: ¬LeP (sumW l l[i].f0) l[i].f2→r=11):
    ∀ (d j : Nat) (acc : List Vec), l.length - j = d → j ≤ l.length → acc.length ≤ j → UptoV j (⟨(vecByF (fun x y => wrap64 (x + y)) acc 0 0 0).1, (vecByF (fun x y => wrap64 (x + y)) acc 0 0 0).2.1, (vecByF (fun x y => wrap64 (x + y)) acc 0 0 0).2.2⟩ : Vec) → sumGo l[i].f0 (l.drop j) (⟨(vecByF (fun x y => wrap64 (x + y)) acc 0 0 0).1, (vecByF (fun x y => wrap64 (x + y)) acc 0 0 0).2.1, (vecByF (fun x y => wrap64 (x + y)) acc 0 0 0).2.2⟩ : Vec) = sumW l l[i].f0 →
      Ev (fun k=>want_list_sums.l1 k acc l (l.length:Int) (i:Int) l (l.length:Int) (j:Int) l l[i].f0 l[i].f1 l[i].f2.f0 l[i].f2.f1 l[i].f2.f2) r
  | 0, j, acc, hd, hj, ha, hv, hs => by
    rw [List.drop_of_length_le (by omega)] at hs
    unfold sumGo at hs
    refine Ev.step (fun k=>want_list_sums.l1.eq_2 (k:=k) ..) ?_
    refine Ev.congr (fun k=>by rw [if_neg (by omega),show vec_Add.f acc=some (vecByF (fun x y=>wrap64 (x+y)) acc 0 0 0) from rfl,Option.bind_some,vec_Le_eq,Option.bind_some,hs,nx64 hi (by omega)]) ?_
    by_cases c:LeP (sumW l l[i].f0) l[i].f2
    · exact Ev.congr (fun k=>if_pos (decide_eq_true c)) (hr c)
    rw [hb c]
    exact Ev.congr (fun k=>if_neg (by rw [decide_eq_true_iff];exact c)) (Ev.now _)
  | d + 1, j, acc, hd, hj, ha, hv, hs => by
    have hlt:j<l.length:=by omega
    rw [List.drop_eq_getElem_cons hlt] at hs
    unfold sumGo at hs
    refine Ev.step (fun k=>want_list_sums.l1.eq_2 (k:=k) ..) ?_
    rw [rd_wantN l hlt,nx64 hlt (by omega)]
    refine Ev.congr (fun k=>by rw [if_pos (by omega),if_pos (by omega),if_pos (by omega)]) ?_
    by_cases c:l[j].f1=l[i].f0
    rotate_left
    · rw [if_neg c] at hs
      refine Ev.congr (fun k=>if_neg (fun q=>c (nm_inj.1 q))) ?_
      exact sums_l1 hl hm hi hr hb d (j+1) acc (by omega) (by omega) (by omega) (uptoV_succ hv) hs
    rw [if_pos c] at hs
    refine Ev.congr (fun k=>by rw [if_pos (nm_inj.2 c),if_pos (by omega)]) ?_
    have hu:=hm _ (List.getElem_mem hlt)
    have e:(⟨(vecByF (fun x y=>wrap64 (x+y)) (acc++ [(⟨l[j].f2.f0,l[j].f2.f1,l[j].f2.f2⟩:Vec)]) 0 0 0).1,(vecByF (fun x y=>wrap64 (x+y)) (acc++ [(⟨l[j].f2.f0,l[j].f2.f1,l[j].f2.f2⟩:Vec)]) 0 0 0).2.1,(vecByF (fun x y=>wrap64 (x+y)) (acc++ [(⟨l[j].f2.f0,l[j].f2.f1,l[j].f2.f2⟩:Vec)]) 0 0 0).2.2⟩:Vec)=vadd ⟨(vecByF (fun x y=>wrap64 (x+y)) acc 0 0 0).1,(vecByF (fun x y=>wrap64 (x+y)) acc 0 0 0).2.1,(vecByF (fun x y=>wrap64 (x+y)) acc 0 0 0).2.2⟩ l[j].f2:=by
      rw [vecByF_snoc]
      have a:=hv .cpu;have b:=hv .mem;have d:=hv .pods
      have a':=hu .cpu;have b':=hu .mem;have d':=hu .pods
      simp only [Comp.of] at a b d a' b' d'
      have e1:(j:Int)<120:=by omega
      have u1:wrap64 ((vecByF (fun x y=>wrap64 (x+y)) acc 0 0 0).1+l[j].f2.f0)=_:=w64 (by omega) (by omega)
      have u2:wrap64 ((vecByF (fun x y=>wrap64 (x+y)) acc 0 0 0).2.1+l[j].f2.f1)=_:=w64 (by omega) (by omega)
      have u3:wrap64 ((vecByF (fun x y=>wrap64 (x+y)) acc 0 0 0).2.2+l[j].f2.f2)=_:=w64 (by omega) (by omega)
      rw [u1,u2,u3]
      rfl
    refine sums_l1 hl hm hi hr hb d (j+1) _ (by omega) (by omega) (by rw [List.length_append,List.length_singleton];omega) ?_ ?_
    · rw [e];exact uptoV_add hv hu
    rw [e];exact hs
theorem sums_l0 {l:List Want} (hl:l.length≤120) (hm: ∀w∈l,MayP w.f2): ∀(d i:Nat),l.length - i=d→i≤l.length→Ev (fun k=>want_list_sums.l0 k l (l.length:Int) (i:Int) l) (if (l.drop i).any (badSum l)=true then 11 else 0)
  | 0, i, hd, hi => by
    rw [List.drop_of_length_le (by omega)];exact Ev.step (fun k=>want_list_sums.l0.eq_2 (k:=k) ..) (Ev.congr (fun k=>if_neg (by omega)) (Ev.now _))
  | d + 1, i, hd, hi => by
    have hlt:i<l.length:=by omega
    have next:=sums_l0 hl hm d (i+1) (by omega) (by omega);rw [List.drop_eq_getElem_cons hlt,List.any_cons];refine Ev.step (fun k=>want_list_sums.l0.eq_2 (k:=k) ..) ?_;rw [rd_wantN l hlt];refine Ev.congr (fun k=>by rw [if_pos (by omega),if_pos (by omega),if_pos (by omega)]) ?_;refine sums_l1 hl hm hlt (fun c=> ?_) (fun c=> ?_) l.length 0 [] (by omega) (by omega) (by simp) (fun c=>by cases c<;>exact ⟨Int.le_refl _,by simp [Comp.of,vecByF]⟩) (by rw [List.drop_zero];rfl)
    · rw [show badSum l l[i] = false from by unfold badSum; rw [decide_eq_true c]; rfl, Bool.false_or]
      exact next
    rw [show badSum l l[i]=true from by unfold badSum;rw [decide_eq_false c];rfl,Bool.true_or,if_pos rfl]
theorem want_Check_ev {l:List Want} (hs:smallW l):Ev (fun k=>want_Check.f k l) (checkR l):=by
  classical
  unfold want_Check.f checkR;by_cases c0:120<l.length
  · rw [if_pos (show l.length > 120 from c0)]
    exact Ev.congr (fun k=>if_pos c0) (Ev.now _)
  refine Ev.congr (fun k=>by rw [if_neg c0,if_pos hs,wnames_eq]) ?_;rw [if_neg (show¬l.length>120 from c0)];by_cases c1:ph1 [] l=0;rotate_left
  · rw [if_pos c1]
    exact Ev.congr (fun k=>if_neg c1) (Ev.now _)
  rw [if_neg (show¬(ph1 [] l≠0) from fun q=>q c1)];refine Ev.congr (fun k=>by rw [if_pos c1,wloose_eq]) ?_;by_cases c2:l.any (noPar l)=true
  · rw [if_pos c2]
    exact Ev.congr (fun k=>if_pos c2) (Ev.now _)
  rw [if_neg c2];refine Ev.congr (fun k=>if_neg c2) ?_;have hm:=ph1_ok c1
  have hn:(l.map (·.f0)).Nodup:=by
    have:=ph1_nodup c1 (by simp)
    rwa [List.nil_append] at this
  have hp:ParW l:=⟨fun w hw=>(mayW_iff.1 (hm w hw)).1.1,fun w hw e=>by
    have q:=any_false.1 c2 w hw;unfold noPar at q;rw [decide_eq_false_iff_not] at q
    cases hx:lookW l w.f1 with
    |none=>exact absurd ⟨e,hx⟩ q
    |some x=>exact ⟨x,rfl⟩⟩
  have ef:l.any (wflat l)=l.any (fun w=>decide (depR l w.f0<1)):=by
    congr 1
    funext w
    unfold wflat;rw [fillR_eq (by omega) hp hn,Bool.eq_iff_iff,decide_eq_true_iff,decide_eq_true_iff];by_cases d:0<depR l w.f0
    · rw [if_pos d];omega
    rw [if_neg d];omega
  rw [ef];by_cases c3:l.any (fun w=>decide (depR l w.f0<1))=true
  · rw [if_pos c3]
    exact Ev.congr (fun k=>if_pos c3) (Ev.now _)
  rw [if_neg c3];refine Ev.congr (fun k=>if_neg c3) ?_;have h:=sums_l0 (by omega) (fun w hw=>(mayW_iff.1 (hm w hw)).2) l.length 0 (by omega) (by omega);rw [List.drop_zero] at h;exact h
theorem depR_pos {l:List Want} (h:TreeW l) (n:ByteArray):0≤depR l n:=by
 cases hx:lookW l n with
 |none=>rw [depR_absent h.par hx];omega
 |some x=>obtain ⟨hm,rfl⟩:=lookW_mem hx;have:=h.dep x hm;omega
theorem fillR_tree {l:List Want} (h:TreeW l) (n:ByteArray):fillR l n=depR l n:=by
  rw [fillR_eq (by have:=h.len;omega) h.par h.nodup];have:=depR_pos h n
  by_cases d:0<depR l n
  · rw [if_pos d]
  rw [if_neg d];omega
end Go.Proofs.Ytahidkjncljkaaa.Print

namespace Go.Proofs.Ytahidkjncljkaaa.Print
open Go.RowKit Go.Proofs.YtahidkjncljkaaaW.PrintWords Go.Proofs.YtahidkjncljkaaaW.PrintLast Go.Proofs.YtahidkjncljkaaaW.PrintMore
attribute [local go_sem] max2_int min2_int max_two min_two max_three min_three max_four min_four

def slices_Clone_Want.f (l0:List (S39)):Option (List (S39)):=if l0.length<2513169434916 then some l0 else none
set_option maxHeartbeats 8000000 in
set_option maxRecDepth 100000 in
theorem slices_Clone_Want.calls (A0:Option Addr) (c0:Nat) (l0:List (S39)) (r:List (S39)) (w:World) (hr0:Kd.C k39 w A0 l0.length l0) (hc0:l0.length≤c0) (h:slices_Clone_Want.f l0=some r):
    Calls Try.prog 77 #[.slice A0 l0.length c0] w fun e w'=> ∃v0_:Value,e= .returned (v0_)∧Kd.R k39 39 w' w.heap.size (fun _=>True) v0_ r∧Below w.heap.size w w':=by
  have hlim:l0.length<2513169434916∧l0=r:=by
    unfold slices_Clone_Want.f at h
    split at h
    · exact ⟨by assumption,Option.some.inj h⟩
    cases h
  obtain ⟨hlim,rfl⟩:=hlim;have hnil:=fun (W:World) (n c:Nat)=>Lib.run_eql_slice_nil (P:=Try.prog) W 22 39 A0 n c 0 0 Try.underlying22
  cases A0 with
  | none =>
    have hl:l0=[]:=by
      cases l0 with
      |nil=>rfl
      |cons x l=>exact absurd (hr0.2.2 (by simp)) (by simp)
    subst hl;clear hr0;go_enter Try.func77,Try.ntmps77;go_wp2
    go_ret
    exact ⟨_,rfl,Kd.R_nil _ _ _ _ _,Below.refl _ _⟩
  | some ad =>
    have HR0:=Aside0.mk hr0;have HC0:=Aside0.mk hc0;have LM:=Aside0.mk hlim;clear hr0 hc0 hlim h;have HB:=am_ (Below.refl w.heap.size w);go_enter Try.func77,Try.ntmps77;go_wp2_with (first|((with_reducible refine gate_dst (N:=5) rfl ?_);refine Kd.R_lit k39 _ 39 ?hg (N:=5) ?hd (xs:=([]:List (S39))) (inner:=[]) (ok:=fun _=>True) (okp:=fun _=>True) ?hr ?hp (fun _ hk=>hk) trivial (Below.refl _ _) (Nat.le_refl _) (by simp) ?_;(case hd=>rfl);(case hg=>rfl);(case hr=>first|(go_simp;done)|(go_simp;rfl));(case hp=>exact (Reps.none _ _));intro v2 w3 ho4 hb hg_ hnew_;clear hg_ hnew_;have HO3:=am_ (Kd.R_lower ho4 (below_size HB.out));replace HB:=am_ (below_step HB.out hb);clear hb ho4)|((with_reducible refine gate_builtin (b:= .append) (xs:=#[.tmp 5, .tmp 6]) rfl ?_);at_builtin;refine Kd.R_append_rows k39 (w0:=w) w.heap.size rfl (.tmp 5) (.tmp 6) 22 39 (.agg #[(.string ⟨#[]⟩),(.string ⟨#[]⟩),(.int .i64 0),(.int .i64 0),(.int .i64 0)]) 56 rfl Try.underlying22 info39 rfl (by decide) (by omega) v2 [] l0 _ _ _ (fun _=>True) (fun _=>False) rfl rfl ?aO ?aR (fun _ _ h=>h) (fun _ h=>h.elim) ?aF ?aB ?aS ?aL ?_;(case aR=>exact (Kd.C_below HR0.out HB.out));(case aB=>exact HB.out);(case aF=>exact (fun _ _=>trivial));(case aO=>exact HO3.out);(case aS=>exact (below_size HB.out));(case aL=>have:=LM.out;simp;omega);intro v5 w5 ho hb hg hat;have n0_:=am_ (hb);have n1_:=am_ (ho);clear HB;clear HO3;have HB:=n0_;have HO6:=n1_;clear n0_ n1_;clear ho hb hg hat))
    go_ret
    exact ⟨_,rfl,HO6.out,HB.out⟩


end Go.Proofs.Ytahidkjncljkaaa.Print

namespace Go.Proofs.Ytahidkjncljkaaa.Print
open Go.Shelf Go.RowKit Go.Lib Go.Sort
open Go.Proofs.YtahidkjncljkaaaW.PrintWords Go.Proofs.YtahidkjncljkaaaW.PrintLast Go.Proofs.YtahidkjncljkaaaW.PrintMore
def arrW (l:List Want) (h: ∀x∈l,x.f0.size≤maxLen):Array SW_:=(l.attach.map fun x=>(⟨x.1,h x.1 x.2⟩:SW_)).toArray
theorem arrW_list (l:List Want) (h: ∀x∈l,x.f0.size≤maxLen):(arrW l h).toList.map (·.1)=l:=by
 unfold arrW;rw [List.map_map]
 show l.attach.map (fun x=>x.1)=l
 simp
theorem arrW_size {l:List Want} {d:Array SW_} (h:d.toList.map (·.1)=l):d.size=l.length:=by rw [←h,List.length_map,Array.length_toList]
theorem arrW_get {l:List Want} {d:Array SW_} (h:d.toList.map (·.1)=l) {j:Nat} (hj:j<l.length):d[j]!.1=l[j]:=by
 have hs:=arrW_size h;have e:(d.toList.map (·.1))[j]?=l[j]?:=by rw [h]
 rw [List.getElem?_map,Array.getElem?_toList,List.getElem?_eq_getElem hj,Array.getElem?_eq_getElem (by omega)] at e;rw [getElem!_pos d j (by omega)];exact Option.some.inj e
theorem flat_get (d:Array SW_) {j i:Nat} (hj:j<d.size) (hi:i<5):(flatK encW 5 d).toList[j*5+i]?=(encW d[j]!)[i]?:=by
 have h:j*5+i<d.size*5:=by omega
 have e1:=get_flatK encW 5 d (j*5+i) h;rw [show (j*5+i) / 5=j by omega,show (j*5+i) % 5=i by omega] at e1;rw [Array.getElem?_toList,Array.getElem?_eq_getElem (by simpa using h),List.getElem?_eq_getElem (by rw [encW_len];exact hi)];rw [getElem!_pos _ _ (by simpa using h),getElem!_pos _ _ (by rw [encW_len];exact hi)] at e1;rw [e1]
theorem flat_seg (d:Array SW_) {j:Nat} (hj:j<d.size):((flatK encW 5 d).toList.drop (j*5)).take 5=encW d[j]!:=by
  apply List.ext_getElem?
  intro i;by_cases hi:i<5
  · rw [List.getElem?_take_of_lt hi,List.getElem?_drop,flat_get d hj hi]
  rw [List.getElem?_eq_none (by rw [List.length_take];omega),List.getElem?_eq_none (by rw [encW_len];omega)]
theorem flat_len (d:Array SW_):(flatK encW 5 d).toList.length=d.size*5:=by simp
theorem reps_flat (w:World) (base:Nat) (ok:Nat→Prop) (d:Array SW_):Reps (k39.M w base ok) 5 (d.toList.map (·.1)) (flatK encW 5 d).toList:=by
 refine ⟨by rw [flat_len,List.length_map,Array.length_toList],fun j p hp=> ?_⟩
 have hj:j<d.size:=by
  have:=(List.getElem?_eq_some_iff.1 hp).1
  rwa [List.length_map,Array.length_toList] at this
 rw [flat_seg d hj]
 have e:d[j]!.1=p:=by
  rw [List.getElem?_map,Array.getElem?_toList,Array.getElem?_eq_getElem hj] at hp;rw [getElem!_pos d j hj];exact Option.some.inj hp
 rw [←e];exact k39_mkM w base ok d[j]!.1
theorem flat_of_reps {w:World} {base:Nat} {ok:Nat→Prop} {l:List Want} {inner:List Value} (h:Reps (k39.M w base ok) 5 l inner) {d:Array SW_} (hd:d.toList.map (·.1)=l):inner=(flatK encW 5 d).toList:=by
  have hs:=arrW_size hd
  apply List.ext_getElem?
  intro t
  by_cases ht:t<d.size*5
  rotate_left
  · rw [List.getElem?_eq_none (by rw [h.1];omega),List.getElem?_eq_none (by rw [flat_len];omega)]
  have hj:t / 5<l.length:=by omega
  have q:=k39_openM (h.2 (t / 5) l[t / 5] (List.getElem?_eq_getElem hj))
  have e:t=(t / 5)*5+t % 5:=by omega
  have q2:=congrArg (fun z=>z[t % 5]?) q
  try dsimp only at q2
  rw [List.getElem?_take_of_lt (by omega),List.getElem?_drop,←e] at q2
  have g:=arrW_get hd hj
  have q3:=flat_get d (j:=t / 5) (i:=t % 5) (by omega) (by omega)
  rw [←e] at q3
  rw [q2,q3]
  unfold encW
  rw [g]
theorem put_take {F cur:Array Value} (h:F.size≤cur.size):(putCells id 0 F cur).toList.take F.size=F.toList:=by
  apply List.ext_getElem?
  intro t;by_cases ht:t<F.size;rotate_left
  · rw [List.getElem?_eq_none (by rw [List.length_take];omega),List.getElem?_eq_none (by rw [Array.length_toList];omega)]
  rw [List.getElem?_take_of_lt ht,Array.getElem?_toList,Array.getElem?_toList,Array.getElem?_eq_getElem ht];unfold putCells;rw [Array.getElem?_mapIdx,Array.getElem?_eq_getElem (by omega)]
  simp [ht]
theorem put_size {F cur:Array Value}:(putCells id 0 F cur).size=cur.size:=by unfold putCells;simp
theorem ownW {w:World} {base:Nat} {v:Value} {l:List Want} (h:Kd.R k39 39 w base (fun _=>True) v l):(v= .slice none 0 0∧l=[])∨ ∃g cap cur,v= .slice (some ⟨g,0,none⟩) l.length cap∧base≤g∧w.heap[g]?=some (.cells cur 39 (0,0))∧l.length≤cap∧cap≤maxLen∧cur.size=cap*5∧
    ∀d:Array SW_,d.toList.map (·.1)=l→cur.toList.take (l.length*5)=(flatK encW 5 d).toList:=by
  obtain ⟨_,inner,⟨h1,h2⟩,hr⟩:=h
  rcases h2 with ⟨rfl,h2⟩|⟨g,cap,cur,rfl,hg,hh,hc,hm,hs,ht⟩
  · exact .inl ⟨rfl,List.length_eq_zero_iff.1 h2⟩
  exact .inr ⟨g,cap,cur,rfl,hg,hh,hc,hm,hs,fun d hd=>ht.trans (flat_of_reps hr hd)⟩
theorem holdsW {w:World} {g n:Nat} {cur:Array Value} {d:Array SW_} (hh:w.heap[g]?=some (.cells cur 39 (0,0))) (ht:cur.toList.take n=(flatK encW 5 d).toList):HoldsK encW 5 w g 0 d:=by
  intro j hj;have hj':j<(flatK encW 5 d).size:=hj;rw [Nat.zero_add];refine ⟨?_,blk_frozen hh j⟩;rw [blk_cell hh j];have e:(cur.toList.take n)[j]?=(flatK encW 5 d).toList[j]?:=by rw [ht]
  rw [show (flatK encW 5 d).toList[j]?=some (flatK encW 5 d)[j] by rw [Array.getElem?_toList,Array.getElem?_eq_getElem hj']] at e
  have hjn:j<n:=by
    by_cases q:j<n
    · exact q
    rw [List.getElem?_eq_none (by rw [List.length_take];omega)] at e;cases e
  rw [List.getElem?_take_of_lt hjn,Array.getElem?_toList] at e;rw [e,getElem!_pos (flatK encW 5 d) j hj']
  rfl
theorem sortedW {w:World} {base g cap m:Nat} {cur:Array Value} {os:Array Obj} {d d':Array SW_} (hg:base≤g) (hh:w.heap[g]?=some (.cells cur 39 (0,0))) (hc:d.size≤cap) (hm:cap≤maxLen) (hs:cur.size=cap*5) (hd:d'.size=d.size):
    Kd.R k39 39 (sortWorldK encW 5 w g 0 m d' os) base (fun _=>True) (.slice (some ⟨g,0,none⟩) d.size cap) (d'.toList.map (·.1)):=by
  refine ⟨fun _ _=>trivial,(flatK encW 5 d').toList,⟨by rw [flat_len,List.length_map,Array.length_toList];rfl, .inr ⟨g,cap,_, ?_,hg,sortWorld_own encW 5 w g 0 m d' os hh, ?_,hm, ?_, ?_⟩⟩,reps_flat _ _ _ d'⟩
  · rw [List.length_map,Array.length_toList,hd]
  · rw [List.length_map,Array.length_toList];omega
  · rw [put_size,hs];rfl
  have e:(List.map (·.1) d'.toList).length*5=(flatK encW 5 d').size:=by rw [List.length_map,Array.length_toList,size_flatK]
  show (putCells id 0 (flatK encW 5 d') cur).toList.take ((List.map (·.1) d'.toList).length*5)=_
  rw [e];exact put_take (by rw [size_flatK,hs];omega)
theorem insN_w (f:ByteArray→Int) {w0:World} {blk cap g:Nat} {cb:Array Value} {d0:Array SW_} (eg: ∀args w,(callFunc g args).run Try.prog w= .ok (.enter g args) w) (hcmp:CmpLays Try.prog g cb encW 5 (cfW f) blk 0 d0.size w0) (R:RowK encW 5 w0 blk 0 d0) (hsz:d0.size<576460752303423488):InsN Try.prog encW (cfW f) 5 g cb blk 0 cap d0 w0:=by
 intro a b d w hs S hab hb
 have hins:=insertionSort_holds (swoW f) d a b hab hb
 have hC:CmpLays Try.prog g cb encW 5 (cfW f) blk 0 d.size w:=fun m os dk hdk x y=>by
  obtain ⟨n0,os0,rfl⟩:=S
  rw [sortWorldK_on encW 5 w0 blk 0 n0 m d dk os0 os R.hblk hdk]
  exact hcmp _ _ dk (by omega) x y
 have key:=AnyQ.insertionSortCmpFunc laysIns 5 Try.isAgg39 Try.sizeOf39 encW encW_len encW_one (cfW f) g cb blk 0 cap a b d w eg hC (S.holds R.hblk R.hH hs.symm) (S.lt R.hblk) hab hb (by omega)
 refine Calls.mono (show Calls Try.prog 147 _ w _ from key) ?_
 rintro e w' ⟨rfl,n,os,rfl⟩
 exact ⟨rfl,_,S.on R.hblk n _ os hins.1.1,hins.2,hins.1⟩
set_option maxRecDepth 100000 in
theorem insNil_calls (c:Nat) (fv:Value) (w:World):Calls Try.prog 147 #[.slice none 0 c, .int .i64 0, .int .i64 0,fv] w fun e w'=>e= .returned (.tuple #[])∧w'=w:=by
 go_enter Try.func147,Try.ntmps147;go_wp2
 refine wp_loop_rounds 1 ?_;rw [rounds_succ];go_wp2
 go_end0
 exact ⟨rfl,rfl⟩
set_option maxRecDepth 100000 in
theorem stableNil_calls (c:Nat) (fv:Value) (w:World):Calls Try.prog 116 #[.slice none 0 c, .int .i64 0,fv] w fun e w'=>e= .returned (.tuple #[])∧w'=w:=by
 go_enter Try.func116,Try.ntmps116;go_wp2
 refine wp_loop_rounds 1 ?_;rw [rounds_succ];go_wp2_with (go_at_call 147;refine (insNil_calls _ _ _).mono ?_;rintro e w1 ⟨rfl,rfl⟩)
 refine wp_loop_rounds 1 ?_;rw [rounds_succ];go_wp2
 go_end0
 exact ⟨rfl,rfl⟩
set_option maxHeartbeats 1000000 in
set_option maxRecDepth 100000 in
theorem sortWants_calls (f:ByteArray→Int) {w:World} {base gd b mb n:Nat} {v0 v:Value} {l:List Want} (hgd:w.heap[gd]?=some (.cells #[.pointer (some ⟨b,0,none⟩)] 108 (0,0))) (hb:w.heap[b]?=some (.cells #[v0, .map (some mb)] 113 (0,0))) (hm:MapAt w mb n f) (hR:Kd.R k39 39 w base (fun _=>True) v l) (hs: ∀x∈l,x.f0.size≤maxLen) (hl:l.length≤1000)
    (hmb: ∀k,v.ownBlock=some k→mb≠k):
    Calls Try.prog 78 #[v, .func (.func 79) #[] #[.pointer (some ⟨gd,0,none⟩)]] w fun e w'=>e= .returned (.tuple #[])∧ ∃l',Kd.R k39 39 w' base (fun _=>True) v l'∧l'.Perm l∧l'.Pairwise (fun x y=> ¬cmpW f y.f0 x.f0<0)∧w.grownBy w' v.ownBlock:=by
  rcases ownW hR with ⟨rfl,rfl⟩|⟨g,cap,cur,rfl,hg,hh,hc,hcm,hcs,hflat⟩
  · have HR := Aside0.mk hR
    go_enter Try.func78,Try.ntmps78
    go_wp2_with (go_at_call 116;refine (stableNil_calls _ _ _).mono ?_;rintro e w1 ⟨rfl,rfl⟩)
    go_end0
    exact ⟨rfl,[],HR.out, .refl _, .nil,⟨rfl,rfl,rfl,Nat.le_refl _,fun _ _ _=>rfl⟩⟩
  obtain ⟨d,hd⟩: ∃d:Array SW_,d.toList.map (·.1)=l:=⟨arrW l hs,arrW_list l hs⟩;have hds:=arrW_size hd;have hH:=holdsW hh (hflat d hd);have R:RowK encW 5 w g 0 d:=⟨encW_len,encW_one,hH,blk_lt hh⟩;have ne1:gd≠g:=by rintro rfl;rw [hgd] at hh;simp at hh
  have ne2:b≠g:=by rintro rfl;rw [hb] at hh;simp at hh
  have ne3:mb≠g:=hmb g (by simp [Value.ownBlock]);have hcmp:=cmpLaysW f hgd hb hm ne1 ne2 ne3 0 d.size;have eg: ∀args w,(callFunc 79 args).run Try.prog w= .ok (.enter 79 args) w:=enters_of Try.func79 (by kernel_rfl) rfl;have hI:=insN_w f (cap:=cap) eg hcmp R (by omega);have hY:=symMerge_w Try.func176 Try.func169 Try.func148 sortT encW (cfW f) 79 #[.pointer (some ⟨gd,0,none⟩)] g 0 cap d w eg hcmp R (swoW f) (by omega);have key:=stable_w Try.func147 Try.func148 Try.func116 sortT encW (cfW f) 79 #[.pointer (some ⟨gd,0,none⟩)] g 0 cap d w hI hY (by omega) d w rfl (SWK.start hH);rw [hds] at key
  have fin: ∀d':Array SW_,∀w',SWK encW 5 w g 0 d' w'→SortedIn (ltOf (cfW f)) 0 l.length d'→PermIn 0 l.length d d'→ ∃l',Kd.R k39 39 w' base (fun _=>True) (.slice (some ⟨g,0,none⟩) l.length cap) l'∧l'.Perm l∧l'.Pairwise (fun x y=> ¬cmpW f y.f0 x.f0<0)∧w.grownBy w' (some g):=by
    rintro d' w' ⟨m,os,rfl⟩ hso hp;have hd':=hp.1;have r:=sortedW (m:=m) (os:=os) (d:=d) (d':=d') hg hh (by omega) hcm hcs hd';rw [hds] at r;refine ⟨_,r, ?_, ?_,sortWorld_grown encW 5 w g 0 m d' os⟩
    · have q := hp.2.2
      rw [show d'.extract 0 l.length=d' by rw [←hds,←hd'];exact Array.extract_size,show d.extract 0 l.length=d by rw [←hds];exact Array.extract_size] at q
      have:=q.map (·.1)
      rwa [hd] at this
    rw [List.pairwise_map,List.pairwise_iff_getElem];intro i j hi hj hij;rw [Array.length_toList] at hi hj;have q:=hso i j (Nat.zero_le _) hij (by omega);rw [getElem!_pos d' i hi,getElem!_pos d' j hj] at q;unfold ltOf at q;rw [decide_eq_false_iff_not] at q;exact q
  have FIN:=Aside0.mk fin;clear fin hI hY hcmp R hH eg hgd hb hm hR hh hflat hd;go_enter Try.func78,Try.ntmps78;go_wp2_with (go_at_call 116;refine key.mono ?_;rintro e w1 ⟨rfl,d',S,X,Y⟩;have T:=am_ (FIN.out d' w1 S X Y);clear S X Y)
  go_end0
  obtain ⟨l',h1,h2,h3,h4⟩:=T.out;exact ⟨rfl,l',h1,h2,h3,by simpa [Value.ownBlock] using h4⟩
end Go.Proofs.Ytahidkjncljkaaa.Print

namespace Go.Proofs.Ytahidkjncljkaaa.Print
open Go.RowKit Go.Proofs.YtahidkjncljkaaaW.PrintWords Go.Proofs.YtahidkjncljkaaaW.PrintLast Go.Proofs.YtahidkjncljkaaaW.PrintMore
attribute [local go_sem] max2_int min2_int max_two min_two max_three min_three max_four min_four

def TopIs (l t:List (S39)):Prop:=t.Perm l∧t.Pairwise (fun x y=> ¬cmpW (fillR l) y.f0 x.f0<0)
noncomputable def want_Top.f (l0:List (S39)):Option (List (S39)):=open Classical in if h:l0.length≤1000∧smallW l0∧ ∃t,TopIs l0 t∧ ∀t',TopIs l0 t'→t'=t then some h.2.2.choose else none
set_option maxHeartbeats 8000000 in
set_option maxRecDepth 100000 in
theorem want_Top.calls (A0:Option Addr) (c0:Nat) (l0:List (S39)) (r:List (S39)) (w:World) (hr0:Kd.C k39 w A0 l0.length l0) (hc0:l0.length≤c0) (h:want_Top.f l0=some r):
    Calls Try.prog 30 #[.slice A0 l0.length c0] w fun e w'=> ∃v0_:Value,e= .returned (v0_)∧Kd.R k39 39 w' w.heap.size (fun _=>True) v0_ r∧Below w.heap.size w w':=by
  unfold want_Top.f at h
  split at h
  rotate_left
  · cases h


  rename_i hh
  have hlim:slices_Clone_Want.f l0=some l0:=by unfold slices_Clone_Want.f;rw [if_pos (by have:=hh.1;omega)]
  have UQ:=am_ (show∀t',TopIs l0 t'→t'=r from by
    have q:=Option.some.inj h;subst q;have s:=hh.2.2.choose_spec;exact s.2)
  obtain ⟨hl,hs,_⟩:=hh;clear h;have hu113:=Try.underlying113;have hcall:=wantMade_calls A0 c0 l0 w hr0 hc0 hl hs;have HR:=Aside0.mk hr0;have HC:=Aside0.mk hc0;have HL:=Aside0.mk hl;have HS:=am_ (show∀x∈l0,x.f0.size≤maxLen from fun x hx=>by have:=(hs x hx).1;unfold maxLen;omega);have LM:=Aside0.mk hlim;clear hr0 hc0 hl hs hlim;go_enter Try.func30,Try.ntmps30
  go_wp2_with (first|(go_at_call 76;refine hcall.mono ?_;rintro e w3 ⟨b,mb,n,rfl,hgb,hbk,hm,hb⟩;have BK:=Aside0.mk hbk;have MP:=Aside0.mk hm;have HB:=Aside0.mk hb;clear hgb hbk hm hb hcall)|((with_reducible refine gate_dst (N:=3) rfl ?_);refine bx_ (N:=3) (cs:=#[.pointer none]) (t:=108) ?_;intro gb3 hg w4 hbox hb;have hbl:=blk_lt BK.out;replace BK:=am_ (blk_below BK.out hb);have BK3:=am_ (hbox);have GE3:=am_ ((by rw [hg];exact below_size HB.out:w.heap.size≤gb3));replace HB:=am_ (below_step HB.out hb);have EQ3:=am_ (hg);have NEB:=am_ (show b≠gb3 from by have:=hbl;rw [EQ3.out];exact Nat.ne_of_lt this);have NEM:=am_ (show mb≠gb3 from by have:=MP.out.lt;rw [EQ3.out];exact Nat.ne_of_lt this);have m_:=am_ (MP.out.below hb);clear MP;have MP:=m_;clear m_ hbl hb hbox hg)|((with_reducible refine gate_store (t:=108) (p:=3) (v:= .tmp 6) rfl ?_);refine store_all BK3.out 108 (.tmp 3) (.tmp 6) rfl rfl rfl (.pointer (some ⟨b,0,none⟩)) [.pointer (some ⟨b,0,none⟩)] rfl rfl rfl (by kernel_rfl) rfl (by intro q hq;simp only [List.mem_cons,List.not_mem_nil,or_false] at hq;rcases hq with rfl<;>rfl) ?_;intro w5 hbk hg;replace BK:=am_ (blk_put_other BK.out hg (NEB.out));replace HB:=am_ (below_put HB.out (below_size HB.out) hg GE3.out);replace MP:=am_ (MP.out.other hg NEM.out);replace BK3:=am_ (hbk);clear hbk hg)|(go_at_call 77;refine (slices_Clone_Want.calls A0 c0 l0 l0 _ (Kd.C_below HR.out HB.out) HC.out LM.out).mono ?_;rintro e w6 ⟨v,rfl,hr,hb⟩;have HNE:=am_ (show∀k,v.ownBlock=some k→mb≠k∧w.heap.size≤k from fun k hk=>by (have q:_≤k:=(by obtain ⟨_,inner,q,_⟩:=hr;exact own_base q k hk);have:=MP.out.lt;have:=below_size HB.out;omega));have n0_:=am_ (Kd.R_lower hr (below_size HB.out));have n1_:=am_ (blk_below BK.out hb);have n2_:=am_ (blk_below BK3.out hb);have n3_:=am_ (MP.out.below hb);have n4_:=am_ (below_step HB.out hb);clear BK BK3 MP HB hr hb;have HV:=n0_;have BK:=n1_;have BK3:=n2_;have MP:=n3_;have HB:=n4_;clear n0_ n1_ n2_ n3_ n4_)|(go_at_call 78;refine (sortWants_calls (fillR l0) BK3.out BK.out MP.out HV.out HS.out HL.out (fun k hk=>(HNE.out k hk).1)).mono ?_;rintro e w7 ⟨rfl,l',hr,hp,hso,hg⟩;have HO:=am_ (show Kd.R k39 39 w7 w.heap.size (fun _=>True) v r from UQ.out l' ⟨hp,hso⟩▸hr);have n0_:=am_ (pw_below_grown HB.out v.ownBlock (below_size HB.out) hg (fun k hk=>(HNE.out k hk).2));clear HV BK BK3 MP HB hr hp hso hg;have HB:=n0_;clear n0_))
  go_ret
  exact ⟨_,rfl,HO.out,HB.out⟩
theorem eqA39 (d:Nat) (w:World) (x0 y0:ByteArray) (x1 y1:ByteArray) (x2 y2:Int) (x3 y3:Int) (x4 y4:Int):
  (Op.equalIn (d+3) 39 (.agg #[.string x0, .string x1, .int .i64 x2, .int .i64 x3, .int .i64 x4]) (.agg #[.string y0, .string y1, .int .i64 y2, .int .i64 y3, .int .i64 y4])).run Try.prog w= .ok (x0.toList==y0.toList && (x1.toList==y1.toList && ((x2==y2 && (x3==y3 && (x4==y4)))))) w:=by
 refine eqA_of Try.underlying39 (by kernel_rfl) ?_;refine eqf_cons (by rfl) (by go_simp;rfl) (by go_simp;rfl) (by go_simp) ?_;refine eqf_cons (by rfl) (by go_simp;rfl) (by go_simp;rfl) (by go_simp) ?_;exact eqf_last (by rfl) (by go_simp) (by go_simp) (eqA37 (d+0) w _ _ _ _ _ _)
attribute [local go_sem high] eqA39
def law1_Num.f (a0:Int):Option (Int):=some a0
set_option maxHeartbeats 8000000 in
set_option maxRecDepth 100000 in
theorem law1_Num.calls (a0:Int) (r:Int) (w:World) (h:law1_Num.f a0=some r):
  Calls Try.prog 25 #[.int .i64 a0] w fun e w'=>e= .returned (.int .i64 r)∧Drawn0 w w':=by
 have H:(some a0)=some r:=h;clear h;obtain rfl:=Option.some.inj H;go_enter Try.func25,Try.ntmps25;go_wp2
 go_ret
 exact ⟨by first|rfl|(simp;done)|(simp [*];done),by repeat (first|exact Drawn0.refl _|apply Drawn0.step)⟩

end Go.Proofs.Ytahidkjncljkaaa.Print

namespace Go.Proofs.Ytahidkjncljkaaa.Print
open Go.RowKit Go.Proofs.YtahidkjncljkaaaW.PrintWords Go.Proofs.YtahidkjncljkaaaW.PrintLast
theorem bef_fill {l:List Want} (h:TreeW l) {a b:Want}:cmpW (fillR l) a.f0 b.f0<0↔bef l a b=true:=by
 rw [cmpW_neg,fillR_tree h,fillR_tree h,bef_iff]
theorem topIs_topR {l:List Want} (h:TreeW l):TopIs l (topR l):=by
 refine ⟨topR_perm l,(topR_sorted h.nodup).imp fun {a b} q k=> ?_⟩;rw [bef_fill h] at k;have:=bef_trans q k
 rw [bef_irrefl] at this;cases this
theorem topIs_unique {l t:List Want} (h:TreeW l) (k:TopIs l t):t=topR l:=by
 refine top_unique h.nodup k.1 ?_
 have hn:t.Pairwise (fun a b=>a.f0≠b.f0):=by
  have:=(k.1.map (·.f0)).nodup_iff.2 h.nodup
  exact List.pairwise_map.1 this
 refine (k.2.and hn).imp fun {a b} q=> ?_
 have e:bef l b a=false:=by
  rw [←Bool.not_eq_true,←bef_fill h];exact q.1
 exact bef_total e (fun e=>q.2 e.symm)
theorem want_Top_tree {l:List Want} (h:TreeW l) (hs:smallW l):want_Top.f l=some (topR l):=by
 classical
 unfold want_Top.f;have hh:l.length≤1000∧smallW l∧ ∃t,TopIs l t∧ ∀t',TopIs l t'→t'=t:=⟨by have:=h.len;omega,hs,topR l,topIs_topR h,fun t' k=>topIs_unique h k⟩;rw [dif_pos hh];exact congrArg some (topIs_unique h hh.2.2.choose_spec.1)
theorem nil_small:smallW ([]:List Want):=fun w hw=>by cases hw
end Go.Proofs.Ytahidkjncljkaaa.Print

namespace Go.Proofs.Ytahidkjncljkaaa.Print
open Go.RowKit Go.Shelf Go.Proofs.YtahidkjncljkaaaW.PrintWords Go.Proofs.YtahidkjncljkaaaW.PrintLast Go.Proofs.YtahidkjncljkaaaW.PrintMore
def goalZ:Value:= .agg #[Value.string ⟨#[]⟩, .string ⟨#[]⟩, .int .i64 0, .int .i64 0, .int .i64 0, .string ⟨#[]⟩, .string ⟨#[]⟩, .int .i64 0, .int .i64 0, .int .i64 0, .int .i64 0, .int .i64 0, .int .i64 0, .int .i64 0, .int .i64 0, .int .i64 0, .int .i64 0, .bool false, .int .i64 0, .int .i64 0, .int .i64 0]
theorem goalLit_fill (z:PGoal):Instr.fill (fun i=>some (i*21,21)) ((Array.range (1*21)).map (fun x=>goalZ.cells[x % goalZ.cells.size]!)) [(0, .agg (goalCells z).toArray)]=some (goalCells z).toArray:=by kernel_rfl
theorem goalLit_zero (w:World):(zeroValue 141).run Try.prog w= .ok goalZ w:=by
 unfold goalZ;go_simp
theorem goalLit (z:PGoal) (w:World):(Instr.buildSlice 137 1 #[(0, .agg (goalCells z).toArray)]).run Try.prog w= .ok (.slice (some ⟨w.heap.size,0,none⟩) 1 1) (w.alloc (.cells (goalCells z).toArray 141)):=by
 have hz:=goalLit_zero w;have hf:=goalLit_fill z;have hu:=Try.underlying137;have hs:(sizeOf 141).run Try.prog w= .ok 21 w:=by go_simp
 unfold Instr.buildSlice;rw [Sem.run_bind,run_underlying hu w];simp only [Result.andThen_ok];rw [Sem.run_bind,hs];simp only [Result.andThen_ok];rw [if_neg (by decide),if_neg (by decide),Sem.run_bind,hz];simp only [Result.andThen_ok,Sem.run_bind,Sem.run_pure];rw [hf];simp only [newRow,Sem.run_bind,Sem.run_pure];go_simp
theorem goalLit_exec {a:Act} {o:Oper} (z:PGoal) {N:Nat} (ho:o.op= .buildSlice 137 1 #[(0, .tmp N)]) (hx:a.eval (.tmp N)= .agg (goalCells z).toArray) (w:World):(execOp a.eval o).run Try.prog w= .ok (.value (.slice (some ⟨w.heap.size,0,none⟩) 1 1)) (w.alloc (.cells (goalCells z).toArray 141)):=by
 have h:=goalLit z w;unfold execOp;simp only [ho,List.map_toArray,List.map_cons,List.map_nil,hx,Sem.run_bind,h,Result.andThen_ok,Sem.run_pure]
end Go.Proofs.Ytahidkjncljkaaa.Print

namespace Go.Proofs.Ytahidkjncljkaaa.Print
open Go.RowKit Go.Shelf Go.Sort Go.Proofs.YtahidkjncljkaaaW.PrintWords Go.Proofs.YtahidkjncljkaaaW.PrintLast Go.Proofs.YtahidkjncljkaaaW.PrintMore
def gzero (y:Want):PGoal:=⟨y,zItem,false,⟨0,0,0⟩⟩
def goalOf (l:List Item) (y:Want):PGoal:=match look l y.f0 with
 |some x=>⟨y,x,true,⟨0,0,0⟩⟩
 |none=>gzero y
def itemRow (x:Item):List Value:=[.string x.f0, .string x.f1, .int .i64 x.f2.f0, .int .i64 x.f2.f1, .int .i64 x.f2.f2, .int .i64 x.f3.f0, .int .i64 x.f3.f1, .int .i64 x.f3.f2, .int .i64 x.f4.f0, .int .i64 x.f4.f1, .int .i64 x.f4.f2, .int .i64 x.f5]
theorem itemRow_info:(Try.prog.info? 79).map (·.size)=some 12:=by kernel_rfl
theorem itemRow_one (x:Item): ∀q∈itemRow x,q.oneCell'=true:=by
 intro q hq;unfold itemRow at hq;simp only [List.mem_cons,List.not_mem_nil,or_false] at hq
 rcases hq with rfl|rfl|rfl|rfl|rfl|rfl|rfl|rfl|rfl|rfl|rfl|rfl<;>rfl
section
variable {P:Program} {ops:Array Oper} {rest:List Oper} {o:Oper} {a:Act} {Q:Exit→Act→World→Prop} {W:World}
theorem load_run {t:Nat} {ad:Addr} (cs:List Value) (d:TypeDesc) (hu:P.underlying t=some d) (hd:(match d with| .struct _| .array _ _=>true|_=>false)=true) (hi:(P.info? t).map (·.size)=some cs.length) (hc: ∀j v,cs[j]?=some v→W.cell? (ad.add j)=some v):(loadVar t ad).run P W= .ok (.agg cs.toArray) W:=by
  have hl:(loadCells ad cs.length).run P W= .ok cs.toArray W:=run_loadCells_list (P:=P) W ad cs hc
  cases hq:P.info? t with
  |none=>simp [hq] at hi
  | some i =>
    have hs:i.size=cs.length:=by simpa [hq] using hi
    have hagg:(isAgg t).run P W= .ok true W:=by
      unfold isAgg;rw [Sem.run_bind,run_underlying hu W]
      cases d<;>simp_all
    simp [loadVar,Sem.run_bind,hagg,sizeOf,typeInfo,hq,hs,hl]
theorem load_ad {t:Nat} {ad:Addr} (cs:List Value) (hgd:o.guard=none) (x:Operand) (ho:o.op= .load t x) (hx:a.eval x= .pointer (some ad)) (d:TypeDesc) (hu:P.underlying t=some d) (hd:(match d with| .struct _| .array _ _=>true|_=>false)=true) (hi:(P.info? t).map (·.size)=some cs.length)
  (hc: ∀j v,cs[j]?=some v→W.cell? (ad.add j)=some v) (h:wpList P ops Q rest (a.put o.dst (.agg cs.toArray)) W):wpList P ops Q (o::rest) a W:=by
 have hrun:=load_run (P:=P) (W:=W) cs d hu hd hi hc;refine wpList_plain hgd fun K hK=> ?_
 unfold Oper.wp execOp;simp only [ho,hx,Instr.loadAt,Instr.sureAddr,Sem.run_bind,Sem.run_pure,Result.andThen_ok,hrun];exact hK _ _ h
theorem load_exec {t g off:Nat} (cs:List Value) (x:Operand) (ho:o.op= .load t x) (hx:a.eval x= .pointer (some ⟨g,off,none⟩)) (d:TypeDesc) (hu:P.underlying t=some d) (hd:(match d with| .struct _| .array _ _=>true|_=>false)=true) (hi:(P.info? t).map (·.size)=some cs.length)
  (hc: ∀j v,cs[j]?=some v→W.cell? ⟨g,off+j,none⟩=some v):(execOp a.eval o).run P W= .ok (.value (.agg cs.toArray)) W:=by
 have hrun:=load_run (P:=P) (W:=W) (ad:=⟨g,off,none⟩) cs d hu hd hi (fun j v hv=>by rw [Addr.add_lit];exact hc j v hv);unfold execOp;simp only [ho,hx,Instr.loadAt,Instr.sureAddr,Sem.run_bind,Sem.run_pure,Result.andThen_ok,hrun]
end
theorem R_elder {α:Type} {d:Kd α} {e base g:Nat} {w w1:World} {v:Value} {xs:List α} (h:d.R e w base (fun _=>True) v xs) (hg:w.grownBy w1 (some g)) (hne:some g≠v.ownBlock) (hE:d.E=[]:=by rfl):d.R e w1 base (fun _=>True) v xs:=
 Kd.R_mono (Kd.R_grown (Kd.R_tight hE h) hg (fun k hk e=>hne (e.symm.trans hk))) (fun _ _=>trivial)
def badW (l:List Item) (ms:List PMark) (y:Want):Bool:=(look l y.f0).isSome && !(ms.any (fun m=>m.f0.toList==y.f0.toList))
def wideOf (l:List Item) (y:Want):Bool:=match look l y.f0 with
 |some x=>x.f1.toList !=y.f1.toList
 |none=>false
def wideP (l:List Item) (ms:List PMark):Bool→List Want→Option Bool
 |b,[]=>some b
 |b,y::ys=>if badW l ms y=true then none else wideP l ms (b||wideOf l y) ys
def PlanIs (ws top:List Want) (ms:List PMark) (l:List Item) (r:List S76) (e:Int):Prop:=
 if checkR ws=0 then (match wideP l ms false top with
  |none=>r=[]∧e=3
  |some wide=>e=0∧ ∃ns,GoneIs ((top.map (goalOf l)).map (upG wide)) ms l ns∧r=(((top.map (goalOf l)).flatMap (raiseG wide)++((top.map (goalOf l)).map (upG wide)).flatMap moveG)++((top.map (goalOf l)).map (upG wide)).reverse.flatMap lowerG)++ns.map delS)
 else r=[]∧e=checkR ws
theorem infoGoal:(Try.prog.info? 141).map (fun i=>(i.zero,i.size,i.bytes))=some (some (.agg #[.string ⟨#[]⟩, .string ⟨#[]⟩, .int .i64 0, .int .i64 0, .int .i64 0, .string ⟨#[]⟩, .string ⟨#[]⟩, .int .i64 0, .int .i64 0, .int .i64 0, .int .i64 0, .int .i64 0, .int .i64 0, .int .i64 0, .int .i64 0, .int .i64 0, .int .i64 0, .bool false, .int .i64 0, .int .i64 0, .int .i64 0]),21,200):=by kernel_rfl
theorem at_item {l:List Item} {w:World} {A:Option Addr} (h:Kd.C k79 w A l.length l) {i:Int} {x:Item} (h0:0≤i) (h1:i<(l.length:Int)) (hx:rd_T79 l i=x): ∃ad,A=some ad∧ ∀j v,(itemRow x)[j]?=some v→w.cell? ((ad.add (i.toNat*12)).add j)=some v:=by
 obtain ⟨ad,c,e,_,hK,hc0⟩:=Kd.C_get h z79 i h0 h1;have hc: ∀j u,c[j]?=some u→w.cell? (ad.add (i.toNat*12+j))=some u:=hc0;obtain rfl:=k79_open hK;subst hx;refine ⟨ad,e,fun j v hv=> ?_⟩;rw [add_add];exact hc j v hv
set_option maxHeartbeats 8000000 in
set_option maxRecDepth 100000 in
theorem planSteps_raw (Aw:Option Addr) (cw:Nat) (ws:List Want) (Am:Option Addr) (cm:Nat) (ms:List PMark) (Al:Option Addr) (cl:Nat) (l:List Item) (w:World) (hW:Kd.C k39 w Aw ws.length ws) (hcw:ws.length≤cw) (hM:Kd.C k84 w Am ms.length ms) (hcm:ms.length≤cm) (hC:Kd.C k79 w Al l.length l) (hcl:l.length≤cl)
    (hs:smallW ws) (hll:l.length<10000) (hml:ms.length<10000):
    Calls Try.prog 48 #[.slice Aw ws.length cw, .slice Am ms.length cm, .slice Al l.length cl] w fun e w'=> ∃(v:Value) (r:List S76) (q:Int),e= .returned (.tuple #[v, .int .i64 q])∧PlanIs ws (topR ws) ms l r q∧Kd.R k76 76 w' w.heap.size (fun _=>True) v r∧Below w.heap.size w w':=by
  have hu139:=Try.underlying139;have hu141:=Try.underlying141;have hu39:=Try.underlying39;have hu79:=Try.underlying79;have hu84:=Try.underlying84;have HW:=Aside0.mk hW;have HM:=Aside0.mk hM;have HCM:=Aside0.mk hcm;have HC:=Aside0.mk hC;have HCL:=Aside0.mk hcl;have HLL:=Aside0.mk hll;have HML:=Aside0.mk hml;have HS:=Aside0.mk hs;have HCW:=Aside0.mk hcw;have HB:=am_ (Below.refl w.heap.size w);clear hW hM hcm hC hcl hll hml hs hcw;obtain ⟨kc,hkc⟩:=want_Check_ev HS.out;have HCK:=am_ (hkc kc (Nat.le_refl _));clear hkc;by_cases hz:checkR ws=0;rotate_left
  · have HZ := Aside0.mk hz
    have hb_:(checkR ws !=0)=true:=by simpa using hz
    generalize hck:checkR ws=ck at*
    have HCE:=Aside0.mk hck
    clear hck
    go_enter Try.func48,Try.ntmps48
    go_wp2_with (first
      |(go_at_call 26;refine (want_Check.calls kc Aw cw ws ck _ (Kd.C_below HW.out HB.out) HCW.out HCK.out).mono ?_;rintro e w1 ⟨rfl,hb⟩;have n0_:=am_ (below_step HB.out hb);clear HB hb;have HB:=n0_;clear n0_))
    go_ret2
    refine ⟨_,[],ck,rfl, ?_,Kd.R_nil _ _ _ _ _,HB.out⟩
    unfold PlanIs
    rw [HCE.out,if_neg HZ.out]
    exact ⟨rfl,rfl⟩
  have HZ:=Aside0.mk hz;have HTR:=am_ (checkR_tree (.inl hz));have HTL:=am_ (show (topR ws).length≤120 by rw [(topR_perm ws).length_eq];exact HTR.out.len);have HTE:=am_ (want_Top_tree HTR.out HS.out);generalize hck:checkR ws=ck at*;have HCE:=Aside0.mk hck;clear hck;subst hz;go_enter Try.func48,Try.ntmps48
  go_wp2_with (first
    |(go_at_call 26;refine (want_Check.calls kc Aw cw ws 0 _ (Kd.C_below HW.out HB.out) HCW.out HCK.out).mono ?_;rintro e w1 ⟨rfl,hb⟩;have n0_:=am_ (below_step HB.out hb);clear HB hb;have HB:=n0_;clear n0_)
    |((with_reducible refine gate_dst (N:=20) rfl ?_);refine bx_ (N:=20) (cs:=#[.slice none 0 0, .bool false, .slice none 0 0]) (t:=139) ?_;intro b hg w2 hbox hb;have GE:=am_ (show w.heap.size≤b from by rw [hg];exact below_size HB.out);have n0_:=am_ (below_step HB.out hb);have BK:=Aside0.mk hbox;clear HB hb hbox hg;have HB:=n0_;clear n0_)
    |(go_at_call 30;refine (want_Top.calls Aw cw ws (topR ws) _ (Kd.C_below HW.out HB.out) HCW.out HTE.out).mono ?_;rintro e w3 ⟨vt,rfl,ht,hb⟩;have n0_:=am_ (Kd.R_lower ht (below_size HB.out));have n1_:=am_ (blk_below BK.out hb);have n2_:=am_ (below_step HB.out hb);clear HB BK ht hb;have HT:=n0_;have BK:=n1_;have HB:=n2_;clear n0_ n1_ n2_;obtain ⟨At,ct,et⟩:=Kd.R_slice HT.out;subst et))
  clear HTE HTR HCK;generalize hTE:topR ws=top at HTL HT;have HTP2:=Aside0.mk hTE;clear hTE;go_loopg [24] top.length (fun kq v24 w'=> ∃(pre post:List Want) (u:Value) (wd:Bool),top=pre++post∧kq=post.length∧v24= .int .i64 (pre.length:Int)∧Aside0 (wideP l ms false top=wideP l ms wd post)∧Aside0 (w'.heap[b]?=some (Obj.cells #[u, .bool wd, .slice none 0 0] 139 (0,0)))∧Aside0 (Kd.R k141 141 w' w.heap.size (fun _=>True) u (pre.map (goalOf l)))∧Aside0 (Kd.R k39 39 w' w.heap.size (fun _=>True) (.slice At top.length ct) top)∧Aside0 (Below w.heap.size w w'))
  case atStart=>exact ⟨[],top, .slice none 0 0,false,rfl,rfl,rfl,⟨rfl⟩,BK,⟨Kd.R_nil _ _ _ _ _⟩,HT,HB⟩
  case round=>
    clear BK HT HB;obtain ⟨pre,post,u,wd,htop,hkq,rfl,HWD,BK,HG,HT,HB⟩:=hrel;obtain ⟨Au,cu,eu⟩:=Kd.R_slice HG.out;subst eu
    cases post with
    | nil =>
      have c1:decide ((pre.length:Int)<(top.length:Int))=false:=decide_eq_false (by rw [htop,List.append_nil];omega);rw [List.append_nil] at htop;subst htop
      go_wp2_with (first|(go_at_call 94;refine (planRaise_calls w _ b _ _ wd (top.map (goalOf l)) [] BK.out GE.out HB.out HG.out (Kd.R_nil _ _ _ _ _) (by simp only [List.length_append,List.length_map,List.length_nil,List.length_reverse];have:=HTL.out;have:=HML.out;have h1_:=raiseG_len wd (top.map (goalOf l));have h2_:=moveG_len ((top.map (goalOf l)).map (upG wd));have h3_:=lowerG_len ((top.map (goalOf l)).map (upG wd)).reverse;simp only [List.length_map,List.length_reverse] at h1_ h2_ h3_;omega)).mono ?_;rintro e w31 ⟨rfl,vo1,hbk,hg1,ho1,hb⟩;clear BK HG HB;have BK:=Aside0.mk hbk;have HG:=Aside0.mk hg1;have HO:=Aside0.mk ho1;have HB:=Aside0.mk hb;clear hbk hg1 ho1 hb)|(go_at_call 95;refine (planMove_calls w _ b _ _ wd ((top.map (goalOf l)).map (upG wd)) _ BK.out GE.out HB.out HG.out HO.out (by simp only [List.length_append,List.length_map,List.length_nil,List.length_reverse];have:=HTL.out;have:=HML.out;have h1_:=raiseG_len wd (top.map (goalOf l));have h2_:=moveG_len ((top.map (goalOf l)).map (upG wd));have h3_:=lowerG_len ((top.map (goalOf l)).map (upG wd)).reverse;simp only [List.length_map,List.length_reverse] at h1_ h2_ h3_;omega)).mono ?_;rintro e w32 ⟨rfl,vo1,hbk,hg1,ho1,hb⟩;clear BK HG HB HO;have BK:=Aside0.mk hbk;have HG:=Aside0.mk hg1;have HO:=Aside0.mk ho1;have HB:=Aside0.mk hb;clear hbk hg1 ho1 hb)|(go_at_call 96;refine (planLower_calls w _ b _ _ wd ((top.map (goalOf l)).map (upG wd)) _ BK.out GE.out HB.out HG.out HO.out (by simp only [List.length_append,List.length_map,List.length_nil,List.length_reverse];have:=HTL.out;have:=HML.out;have h1_:=raiseG_len wd (top.map (goalOf l));have h2_:=moveG_len ((top.map (goalOf l)).map (upG wd));have h3_:=lowerG_len ((top.map (goalOf l)).map (upG wd)).reverse;simp only [List.length_map,List.length_reverse] at h1_ h2_ h3_;omega)).mono ?_;rintro e w33 ⟨rfl,vo1,hbk,hg1,ho1,hb⟩;clear BK HG HB HO;have BK:=Aside0.mk hbk;have HG:=Aside0.mk hg1;have HO:=Aside0.mk ho1;have HB:=Aside0.mk hb;clear hbk hg1 ho1 hb)|(go_at_call 97;refine (planDrop_calls w _ b _ _ wd ((top.map (goalOf l)).map (upG wd)) _ Am cm ms Al cl l HM.out HCM.out HC.out HCL.out (by have:=HLL.out;omega) BK.out GE.out HB.out HG.out HO.out (by simp only [List.length_append,List.length_map,List.length_nil,List.length_reverse];have:=HTL.out;have:=HML.out;have h1_:=raiseG_len wd (top.map (goalOf l));have h2_:=moveG_len ((top.map (goalOf l)).map (upG wd));have h3_:=lowerG_len ((top.map (goalOf l)).map (upG wd)).reverse;simp only [List.length_map,List.length_reverse] at h1_ h2_ h3_;omega)).mono ?_;rintro e w34 ⟨rfl,ns,vo1,hgo,hbk,ho1,hb⟩;clear BK HG HB HO;have BK:=Aside0.mk hbk;have HO:=Aside0.mk ho1;have HB:=Aside0.mk hb;have GO:=Aside0.mk hgo;clear hbk ho1 hb hgo;have cb2:=zz_ BK 2))
      go_ret2
      refine ⟨_,_,0,rfl, ?_,HO.out,HB.out⟩;have HW2:=HWD.out;unfold PlanIs;rw [if_pos HCE.out,HTP2.out,HW2];exact ⟨rfl,ns,GO.out,by rw [List.nil_append]⟩
    | cons y post =>
      have hn:top.length=pre.length+(post.length+1):=by rw [htop,List.length_append,List.length_cons]
      have c1:decide ((pre.length:Int)<(top.length:Int))=true:=decide_eq_true (by omega);have p6:(0:Int)≤((pre.length:Nat):Int):=by omega
      have q6:((pre.length:Nat):Int)<(top.length:Int):=by omega
      obtain ⟨ad0,e6,k0,k1_,k2,k3,k4⟩:=at_T39 (Kd.R_reads' HT.out).2.2 ((pre.length:Nat):Int) p6 q6;subst e6
      have em:rd_T39 top ((pre.length:Nat):Int)=y:=by
        rw [rd_want,Int.toNat_natCast,htop,List.getD_eq_getElem?_getD,List.getElem?_append_right (Nat.le_refl _),Nat.sub_self]
        rfl
      rw [em] at k0 k1_ k2 k3 k4;simp only [Int.toNat_natCast] at k0 k1_ k2 k3 k4;have HTP:=Aside0.mk htop;have HKQ:=Aside0.mk hkq;have HN:=Aside0.mk hn;clear htop hkq hn em;replace p6:=eq_true p6;replace q6:=eq_true q6
      go_upto_if 35 with (first|((with_reducible refine gate_dst (N:=11) rfl ?_);refine bx_ (N:=11) (cs:=#[.string ⟨#[]⟩, .string ⟨#[]⟩, .int .i64 0, .int .i64 0, .int .i64 0]) (t:=39) ?_;intro gb11 hg w11 hbox hb;have NE11_BK:=am_ (show _≠gb11 from by have:=blk_lt BK.out;rw [hg];exact Nat.ne_of_lt this);have OL11_HG:=am_ (show some gb11≠(Value.slice Au (pre.map (goalOf l)).length cu).ownBlock from fun e=>by have q:=Kd.R_lt HG.out gb11 e.symm;rw [hg] at q;exact Nat.lt_irrefl _ q);have OL11_HT:=am_ (show some gb11≠(Value.slice (some ad0) top.length ct).ownBlock from fun e=>by have q:=Kd.R_lt HT.out gb11 e.symm;rw [hg] at q;exact Nat.lt_irrefl _ q);have GE11:=am_ (show w.heap.size≤gb11 from by rw [hg];exact below_size HB.out);replace HG:=am_ (Kd.R_below HG.out hb);replace HT:=am_ (Kd.R_below HT.out hb);replace BK:=am_ (blk_below BK.out hb);replace HB:=am_ (below_step HB.out hb);have B11:=Aside0.mk hbox;clear hbox hb hg)|((with_reducible refine gate_store (t:=39) (p:=11) (v:= .tmp 27) rfl ?_);refine store_all B11.out 39 (.tmp 11) (.tmp 27) rfl rfl rfl (.agg #[.string y.f0, .string y.f1, .int .i64 y.f2.f0, .int .i64 y.f2.f1, .int .i64 y.f2.f2]) [.string y.f0, .string y.f1, .int .i64 y.f2.f0, .int .i64 y.f2.f1, .int .i64 y.f2.f2] rfl rfl rfl (by kernel_rfl) rfl (by intro q hq;simp only [List.mem_cons,List.not_mem_nil,or_false] at hq;rcases hq with rfl|rfl|rfl|rfl|rfl<;>rfl) ?_;intro w112 hbk hg;replace HG:=am_ (R_elder HG.out hg OL11_HG.out);replace HT:=am_ (R_elder HT.out hg OL11_HT.out);replace BK:=am_ (blk_put_other BK.out hg NE11_BK.out);replace HB:=am_ (below_put HB.out (below_size HB.out) hg GE11.out);replace B11:=am_ (hbk);clear hbk hg k0 k1_ k2 k3 k4;have d0:=zz_ B11 0;have d1:=zz_ B11 1;have d2:=zz_ B11 2;have d3:=zz_ B11 3;have d4:=zz_ B11 4)|((with_reducible refine gate_dst (N:=12) rfl ?_);refine bx_ (N:=12) (cs:=#[.string ⟨#[]⟩, .string ⟨#[]⟩, .int .i64 0, .int .i64 0, .int .i64 0, .string ⟨#[]⟩, .string ⟨#[]⟩, .int .i64 0, .int .i64 0, .int .i64 0, .int .i64 0, .int .i64 0, .int .i64 0, .int .i64 0, .int .i64 0, .int .i64 0, .int .i64 0, .bool false, .int .i64 0, .int .i64 0, .int .i64 0]) (t:=141) ?_;intro gb12 hg w12 hbox hb;have NE12_BK:=am_ (show _≠gb12 from by have:=blk_lt BK.out;rw [hg];exact Nat.ne_of_lt this);have NE12_B11:=am_ (show _≠gb12 from by have:=blk_lt B11.out;rw [hg];exact Nat.ne_of_lt this);have OL12_HG:=am_ (show some gb12≠(Value.slice Au (pre.map (goalOf l)).length cu).ownBlock from fun e=>by have q:=Kd.R_lt HG.out gb12 e.symm;rw [hg] at q;exact Nat.lt_irrefl _ q);have OL12_HT:=am_ (show some gb12≠(Value.slice (some ad0) top.length ct).ownBlock from fun e=>by have q:=Kd.R_lt HT.out gb12 e.symm;rw [hg] at q;exact Nat.lt_irrefl _ q);have GE12:=am_ (show w.heap.size≤gb12 from by rw [hg];exact below_size HB.out);replace HG:=am_ (Kd.R_below HG.out hb);replace HT:=am_ (Kd.R_below HT.out hb);replace BK:=am_ (blk_below BK.out hb);replace B11:=am_ (blk_below B11.out hb);replace HB:=am_ (below_step HB.out hb);have B12:=Aside0.mk hbox;clear d0 d1 d2 d3 d4;clear hbox hb hg)|((with_reducible refine gate_store (t:=141) (p:=12) (v:= .tmp 29) rfl ?_);refine store_all B12.out 141 (.tmp 12) (.tmp 29) rfl rfl rfl (.agg (goalCells (gzero y)).toArray) (goalCells (gzero y)) rfl rfl rfl goalCells_info rfl (goalCells_one _) ?_;intro w122 hbk hg;replace HG:=am_ (R_elder HG.out hg OL12_HG.out);replace HT:=am_ (R_elder HT.out hg OL12_HT.out);replace BK:=am_ (blk_put_other BK.out hg NE12_BK.out);replace B11:=am_ (blk_put_other B11.out hg NE12_B11.out);replace HB:=am_ (below_put HB.out (below_size HB.out) hg GE12.out);replace B12:=am_ (hbk);clear hbk hg;have d0:=zz_ B11 0)|(go_at_call 91;refine (tree_Find.calls Al cl l y.f0 (fnd l y.f0) _ (Kd.C_below HC.out HB.out) HCL.out rfl).mono ?_;rintro e w13 ⟨rfl,hb⟩;replace HG:=am_ (Kd.R_below HG.out hb);replace HT:=am_ (Kd.R_below HT.out hb);replace BK:=am_ (blk_below BK.out hb);replace B11:=am_ (blk_below B11.out hb);replace B12:=am_ (blk_below B12.out hb);replace HB:=am_ (below_step HB.out hb);clear hb d0))
      go_cut [] (fun wc=>Aside0 (wc.heap[b]?=some (Obj.cells #[.slice Au (pre.map (goalOf l)).length cu, .bool wd, .slice none 0 0] 139 (0,0)))∧Aside0 (wc.heap[gb11]?=some (Obj.cells #[.string y.f0, .string y.f1, .int .i64 y.f2.f0, .int .i64 y.f2.f1, .int .i64 y.f2.f2] 39 (0,0)))∧Aside0 (wc.heap[gb12]?=some (Obj.cells (goalCells (goalOf l y)).toArray 141 (0,0)))∧Aside0 (Kd.R k141 141 wc w.heap.size (fun _=>True) (.slice Au (pre.map (goalOf l)).length cu) (pre.map (goalOf l)))∧Aside0 (Kd.R k39 39 wc w.heap.size (fun _=>True) (.slice (some ad0) top.length ct) top)∧Aside0 (Below w.heap.size w wc))
      case first=>
        cases hlk:look l y.f0 with
        | none =>
          have HGE:Aside0 (goalOf l y=gzero y):=⟨by unfold goalOf;rw [hlk]⟩;have c2:decide (0≤fnd l y.f0)=false:=decide_eq_false (Int.not_le.2 (fnd_neg.2 hlk));clear hlk;rw [c2];go_wp2_with fail
          go_meet
          case rel=>exact ⟨BK,B11,⟨by rw [HGE.out];exact B12.out⟩,HG,HT,HB⟩
        | some x =>
          have HGE:Aside0 (goalOf l y=⟨y,x,true,⟨0,0,0⟩⟩):=⟨by unfold goalOf;rw [hlk]⟩;have p8:0≤fnd l y.f0:=fnd_ge.2 ⟨x,hlk⟩;have q8:=fnd_lt l y.f0;obtain ⟨ad,ea,hLI⟩:=at_item (Kd.C_below HC.out HB.out) p8 q8 (fnd_rd hlk);have LI:=Aside0.mk hLI;have c2:decide (0≤fnd l y.f0)=true:=decide_eq_true p8;clear hlk hLI;subst ea;rw [c2];clear c2;replace p8:=eq_true p8;replace q8:=eq_true q8
          go_wp2_with (first|((with_reducible refine gate_dst (N:=39) rfl ?_);refine load_ad (itemRow x) rfl (.tmp 38) rfl (ad:=ad.add ((fnd l y.f0).toNat*12)) rfl _ hu79 rfl itemRow_info LI.out ?_)|((with_reducible refine gate_store (t:=79) (p:=40) (v:= .tmp 39) rfl ?_);refine store_part B12.out 79 (.tmp 40) (.tmp 39) rfl rfl rfl 5 (.agg (itemRow x).toArray) (itemRow x) (goalCells ⟨y,x,false,⟨0,0,0⟩⟩) rfl rfl rfl (by kernel_rfl) (show (17:Nat)≤21 from by decide) ?one rfl ?_;(case one=>first|exact itemRow_one x|(intro q hq;simp only [List.mem_cons,List.not_mem_nil,or_false] at hq;rcases hq with rfl;rfl));intro w40 hbk hg;replace HG:=am_ (R_elder HG.out hg OL12_HG.out);replace HT:=am_ (R_elder HT.out hg OL12_HT.out);replace BK:=am_ (blk_put_other BK.out hg NE12_BK.out);replace B11:=am_ (blk_put_other B11.out hg NE12_B11.out);replace HB:=am_ (below_put HB.out (below_size HB.out) hg GE12.out);replace B12:=am_ (hbk);clear hbk hg)|((with_reducible refine gate_store (t:=4) (p:=41) (v:= .const (.bool true)) rfl ?_);refine store_part B12.out 4 (.tmp 41) (.const (.bool true)) rfl rfl rfl 17 (.bool true) ([.bool true]) (goalCells ⟨y,x,true,⟨0,0,0⟩⟩) rfl rfl rfl (by kernel_rfl) (show (18:Nat)≤21 from by decide) ?one rfl ?_;(case one=>first|exact itemRow_one x|(intro q hq;simp only [List.mem_cons,List.not_mem_nil,or_false] at hq;rcases hq with rfl;rfl));intro w41 hbk hg;replace HG:=am_ (R_elder HG.out hg OL12_HG.out);replace HT:=am_ (R_elder HT.out hg OL12_HT.out);replace BK:=am_ (blk_put_other BK.out hg NE12_BK.out);replace B11:=am_ (blk_put_other B11.out hg NE12_B11.out);replace HB:=am_ (below_put HB.out (below_size HB.out) hg GE12.out);replace B12:=am_ (hbk);clear hbk hg))
          go_meet
          case rel=>exact ⟨BK,B11,⟨by rw [HGE.out];exact B12.out⟩,HG,HT,HB⟩
      case rest=>
        clear BK B11 B12 HG HT HB;obtain ⟨BK,B11,B12,HG,HT,HB⟩:=hcut
        rename_i hK0
        refine hK0 _ _ ?_;refine wp_seq_k ?_;intro K1 hK1;go_cut [] (fun wc=>Aside0 (badW l ms y=false)∧Aside0 (wc.heap[b]?=some (Obj.cells #[.slice Au (pre.map (goalOf l)).length cu, .bool wd, .slice none 0 0] 139 (0,0)))∧Aside0 (wc.heap[gb12]?=some (Obj.cells (goalCells (goalOf l y)).toArray 141 (0,0)))∧Aside0 (Kd.R k141 141 wc w.heap.size (fun _=>True) (.slice Au (pre.map (goalOf l)).length cu) (pre.map (goalOf l)))∧Aside0 (Kd.R k39 39 wc w.heap.size (fun _=>True) (.slice (some ad0) top.length ct) top)∧Aside0 (Below w.heap.size w wc))
        case first=>
          cases hlk:look l y.f0 with
          | none =>
            have HBD:Aside0 (badW l ms y=false):=⟨by unfold badW;rw [hlk];rfl⟩;have c17:wc.cell? ⟨gb12,17,none⟩=some (.bool false):=(blk_cell B12.out 17).trans (by unfold goalOf;rw [hlk];rfl);clear hlk;go_wp2_with fail
            go_meet
            case rel=>exact ⟨HBD,BK,B12,HG,HT,HB⟩
          | some x =>
            have c17:wc.cell? ⟨gb12,17,none⟩=some (.bool true):=(blk_cell B12.out 17).trans (by unfold goalOf;rw [hlk];rfl)
            cases hmk:ms.any (fun m=>m.f0.toList==y.f0.toList) with
            | false =>
              have HBD:Aside0 (badW l ms y=true):=⟨by unfold badW;rw [hlk,hmk];rfl⟩;clear hlk;go_wp2_with (first|(go_at_call 92;refine (hasMark_calls 93 #[.pointer (some ⟨gb11,0,none⟩)] (fun m=>m.f0.toList==y.f0.toList) (enters_of Try.func93 (by kernel_rfl) rfl) _ (fun W' m hb=>stepsHas_calls W' gb11 y m (blk_below B11.out hb)) Am cm ms (Kd.C_below HM.out HB.out) HCM.out).mono ?_;rintro e w47 ⟨rfl,hb⟩;try rw [hmk];replace HG:=am_ (Kd.R_below HG.out hb);replace HT:=am_ (Kd.R_below HT.out hb);replace BK:=am_ (blk_below BK.out hb);replace B11:=am_ (blk_below B11.out hb);replace B12:=am_ (blk_below B12.out hb);replace HB:=am_ (below_step HB.out hb);clear hb))
              go_ret2
              refine ⟨_,[],3,rfl, ?_,Kd.R_nil _ _ _ _ _,HB.out⟩;unfold PlanIs;rw [if_pos HCE.out,HTP2.out,HWD.out];unfold wideP;rw [if_pos HBD.out];exact ⟨rfl,rfl⟩
            | true =>
              have HBD:Aside0 (badW l ms y=false):=⟨by unfold badW;rw [hmk,Bool.not_true,Bool.and_false]⟩;clear hlk;go_wp2_with (first|(go_at_call 92;refine (hasMark_calls 93 #[.pointer (some ⟨gb11,0,none⟩)] (fun m=>m.f0.toList==y.f0.toList) (enters_of Try.func93 (by kernel_rfl) rfl) _ (fun W' m hb=>stepsHas_calls W' gb11 y m (blk_below B11.out hb)) Am cm ms (Kd.C_below HM.out HB.out) HCM.out).mono ?_;rintro e w47 ⟨rfl,hb⟩;try rw [hmk];replace HG:=am_ (Kd.R_below HG.out hb);replace HT:=am_ (Kd.R_below HT.out hb);replace BK:=am_ (blk_below BK.out hb);replace B11:=am_ (blk_below B11.out hb);replace B12:=am_ (blk_below B12.out hb);replace HB:=am_ (below_step HB.out hb);clear hb))
              go_meet
              case rel=>exact ⟨HBD,BK,B12,HG,HT,HB⟩
        case rest=>
          clear BK B11 B12 HG HT HB;obtain ⟨HBD,BK,B12,HG,HT,HB⟩:=hcut;refine hK1 _ _ ?_;refine wp_seq_k ?_;intro K2 hK2;go_cut [] (fun wc=>Aside0 (wc.heap[b]?=some (Obj.cells #[.slice Au (pre.map (goalOf l)).length cu, .bool (wd||wideOf l y), .slice none 0 0] 139 (0,0)))∧Aside0 (wc.heap[gb12]?=some (Obj.cells (goalCells (goalOf l y)).toArray 141 (0,0)))∧Aside0 (Kd.R k141 141 wc w.heap.size (fun _=>True) (.slice Au (pre.map (goalOf l)).length cu) (pre.map (goalOf l)))∧Aside0 (Kd.R k39 39 wc w.heap.size (fun _=>True) (.slice (some ad0) top.length ct) top)∧Aside0 (Below w.heap.size w wc))
          case first=>
            have b1:=zz_ BK 1
            cases wd with
            | true =>
              go_wp2_with (first|((with_reducible refine gate_store (t:=4) (p:=69) (v:= .tmp 67) rfl ?_);refine store_part BK.out 4 (.tmp 69) (.tmp 67) rfl rfl rfl 1 (.bool true) [.bool true] [.slice Au (pre.map (goalOf l)).length cu, .bool true, .slice none 0 0] rfl rfl rfl (by kernel_rfl) (show (2:Nat)≤3 from by decide) (by intro q hq;simp only [List.mem_cons,List.not_mem_nil,or_false] at hq;rcases hq with rfl;rfl) rfl ?_;intro w69 hbk hg;replace HG:=am_ (R_put HG.out BK.out (by decide) hg);replace HT:=am_ (R_put HT.out BK.out (by decide) hg);replace B12:=am_ (blk_put_other B12.out hg (Ne.symm NE12_BK.out));replace HB:=am_ (below_put HB.out (below_size HB.out) hg GE.out);replace BK:=am_ (hbk);clear hbk hg))
              go_meet
              case rel=>exact ⟨⟨by rw [Bool.true_or];exact BK.out⟩,B12,HG,HT,HB⟩
            | false =>
              cases hlk:look l y.f0 with
              | none =>
                have HWI:Aside0 (wideOf l y=false):=⟨by unfold wideOf;rw [hlk]⟩;have c17:wc.cell? ⟨gb12,17,none⟩=some (.bool false):=(blk_cell B12.out 17).trans (by unfold goalOf;rw [hlk];rfl);clear hlk;go_wp2_with (first|((with_reducible refine gate_store (t:=4) (p:=69) (v:= .tmp 67) rfl ?_);refine store_part BK.out 4 (.tmp 69) (.tmp 67) rfl rfl rfl 1 (.bool false) [.bool false] [.slice Au (pre.map (goalOf l)).length cu, .bool false, .slice none 0 0] rfl rfl rfl (by kernel_rfl) (show (2:Nat)≤3 from by decide) (by intro q hq;simp only [List.mem_cons,List.not_mem_nil,or_false] at hq;rcases hq with rfl;rfl) rfl ?_;intro w69 hbk hg;replace HG:=am_ (R_put HG.out BK.out (by decide) hg);replace HT:=am_ (R_put HT.out BK.out (by decide) hg);replace B12:=am_ (blk_put_other B12.out hg (Ne.symm NE12_BK.out));replace HB:=am_ (below_put HB.out (below_size HB.out) hg GE.out);replace BK:=am_ (hbk);clear hbk hg))
                go_meet
                case rel=>exact ⟨⟨by rw [Bool.false_or,HWI.out];exact BK.out⟩,B12,HG,HT,HB⟩
              | some x =>
                have c17:wc.cell? ⟨gb12,17,none⟩=some (.bool true):=(blk_cell B12.out 17).trans (by unfold goalOf;rw [hlk];rfl);have c6:wc.cell? ⟨gb12,5+1,none⟩=some (.string x.f1):=(blk_cell B12.out 6).trans (by unfold goalOf;rw [hlk];rfl);have c1_:wc.cell? ⟨gb12,1,none⟩=some (.string y.f1):=(blk_cell B12.out 1).trans (by unfold goalOf;rw [hlk];rfl)
                cases hne:(x.f1.toList !=y.f1.toList) with
                | true =>
                  have HWI:Aside0 (wideOf l y=true):=⟨by unfold wideOf;rw [hlk];exact hne⟩;have hp1:(x.f1.toList==y.f1.toList)=false:=by simpa using hne
                  clear hlk;go_wp2_with (first|((with_reducible refine gate_store (t:=4) (p:=69) (v:= .tmp 67) rfl ?_);refine store_part BK.out 4 (.tmp 69) (.tmp 67) rfl rfl rfl 1 (.bool true) [.bool true] [.slice Au (pre.map (goalOf l)).length cu, .bool true, .slice none 0 0] rfl rfl rfl (by kernel_rfl) (show (2:Nat)≤3 from by decide) (by intro q hq;simp only [List.mem_cons,List.not_mem_nil,or_false] at hq;rcases hq with rfl;rfl) rfl ?_;intro w69 hbk hg;replace HG:=am_ (R_put HG.out BK.out (by decide) hg);replace HT:=am_ (R_put HT.out BK.out (by decide) hg);replace B12:=am_ (blk_put_other B12.out hg (Ne.symm NE12_BK.out));replace HB:=am_ (below_put HB.out (below_size HB.out) hg GE.out);replace BK:=am_ (hbk);clear hbk hg))
                  go_meet
                  case rel=>exact ⟨⟨by rw [Bool.false_or,HWI.out];exact BK.out⟩,B12,HG,HT,HB⟩
                | false =>
                  have HWI:Aside0 (wideOf l y=false):=⟨by unfold wideOf;rw [hlk];exact hne⟩;have hp1:(x.f1.toList==y.f1.toList)=true:=by simpa using hne
                  clear hlk;go_wp2_with (first|((with_reducible refine gate_store (t:=4) (p:=69) (v:= .tmp 67) rfl ?_);refine store_part BK.out 4 (.tmp 69) (.tmp 67) rfl rfl rfl 1 (.bool false) [.bool false] [.slice Au (pre.map (goalOf l)).length cu, .bool false, .slice none 0 0] rfl rfl rfl (by kernel_rfl) (show (2:Nat)≤3 from by decide) (by intro q hq;simp only [List.mem_cons,List.not_mem_nil,or_false] at hq;rcases hq with rfl;rfl) rfl ?_;intro w69 hbk hg;replace HG:=am_ (R_put HG.out BK.out (by decide) hg);replace HT:=am_ (R_put HT.out BK.out (by decide) hg);replace B12:=am_ (blk_put_other B12.out hg (Ne.symm NE12_BK.out));replace HB:=am_ (below_put HB.out (below_size HB.out) hg GE.out);replace BK:=am_ (hbk);clear hbk hg))
                  go_meet
                  case rel=>exact ⟨⟨by rw [Bool.false_or,HWI.out];exact BK.out⟩,B12,HG,HT,HB⟩
          case rest=>
            clear BK B12 HG HT HB;obtain ⟨BK,B12,HG,HT,HB⟩:=hcut;have HWD2:Aside0 (wideP l ms false top=wideP l ms (wd||wideOf l y) post):=⟨by rw [HWD.out];show (if badW l ms y=true then none else _)=_;rw [if_neg (by rw [HBD.out];simp)]⟩;generalize (wd||wideOf l y)=wd2 at BK HWD2;obtain ⟨z,hz⟩: ∃z,goalOf l y=z:=⟨_,rfl⟩;have HZ:=Aside0.mk hz;rw [hz] at B12;clear hz;refine hK2 _ _ ?_;have cb0:=zz_ BK 0;replace HG:=am_ (Kd.R_drew HG.out);replace HT:=am_ (Kd.R_drew HT.out);replace BK:=am_ (blk_drew BK.out);replace B12:=am_ (blk_drew B12.out);replace HB:=am_ (below_drew1 HB.out);refine start_ (n:=11) (S:=fun w'=>w'.cell? ⟨b,0,none⟩=some (.slice Au (pre.map (goalOf l)).length cu)∧w'.heap[gb12]?=some (Obj.cells (goalCells z).toArray 141 (0,0))) (ds:=[10]) (bt_ 11 0) (by kernel_rfl) rfl rfl ⟨(blk_cell BK.out 0).trans rfl,B12.out⟩ (fun hHeld=> ?_);generalize wc.drew=w15 at BK HG HT HB B12 hHeld ⊢;refine pv_ (i:=0) (N:=some 70) (bt_ 11 1) ?_;refine pv_ (i:=1) (N:=some 71) (bt_ 11 3) ?_;refine pv_ (i:=2) (N:=some 72) (bt_ 11 7) ?_;refine pv_ (i:=3) (N:=some 73) (bt_ 11 15) ?_;refine tv_ (i:=4) (N:=some 74) (bt_ 11 31) hHeld ?_
            refine take_ (i:=5) (N:=some 75) (v:= .agg (goalCells z).toArray) (a':= ?_) (bt_ 11 63) rfl rfl (by kernel_rfl) (fun _ _ _ h=>h) (Or.inl ⟨by rfl, ?_⟩) hHeld ?_ ?_;(rintro w' ⟨s0,s1⟩;exact load_exec (goalCells z) (.tmp 12) rfl (g:=gb12) (off:=0) rfl _ hu141 rfl goalCells_info (fun j v hv=>by rw [Nat.zero_add];exact (blk_cell s1 j).trans (by rw [List.getElem?_toArray];exact hv)));rotate_left;(simp only [Act.put,List.setIfInBounds_toArray,List.set_cons_zero,List.set_cons_succ,i64_w,i32_w];rfl);refine one_ (i:=6) (N:=some 76) (bt_ 11 127) rfl rfl (by kernel_rfl) (by decide) (fun K hK=> ?_);refine event_step (by rfl) (v:= .slice (some ⟨w15.heap.size,0,none⟩) 1 1) (w1:=w15.alloc (.cells (goalCells z).toArray 141)) ?hr ?_;(case hr=>exact goalLit_exec z rfl rfl w15);refine hK.out _ _ ⟨(World.cell?_alloc_lt _ _ _ (World.block_lt_of_cell? _ _ ((blk_cell BK.out 0).trans rfl))).trans ((blk_cell BK.out 0).trans rfl),blk_alloc B12.out _⟩ (fun hHeld=> ?_);clear hK K;refine norm_ (a':= ?_) ?_ ?_;rotate_left
            · show Act.put _ (some 76) _ = _
              simp only [Act.put,List.setIfInBounds_toArray,List.set_cons_zero,List.set_cons_succ,i64_w,i32_w]
              rfl
            refine one_ (i:=7) (N:=some 77) (bt_ 11 255) rfl rfl (by kernel_rfl) (by decide) (fun K hK=> ?_);refine Kd.R_append_step k141 (w0:=w) w.heap.size (by rfl) (.tmp 74) (.tmp 76) 137 141 (.agg #[.string ⟨#[]⟩, .string ⟨#[]⟩, .int .i64 0, .int .i64 0, .int .i64 0, .string ⟨#[]⟩, .string ⟨#[]⟩, .int .i64 0, .int .i64 0, .int .i64 0, .int .i64 0, .int .i64 0, .int .i64 0, .int .i64 0, .int .i64 0, .int .i64 0, .int .i64 0, .bool false, .int .i64 0, .int .i64 0, .int .i64 0]) 200 rfl Try.underlying137 infoGoal rfl (by decide) (by omega) _ (pre.map (goalOf l)) z (goalCells z) (fun _=>True) (fun _=>False) rfl rfl ?aP (fun _ hk=>hk.elim) (fun _ _=>trivial) (show Kd.R k141 141 w15 w.heap.size (fun _=>True) (.slice Au pre.length cu) (pre.map (goalOf l)) from by have h_:=HG.out;rw [List.length_map] at h_;exact h_) HB.out (below_size HB.out) (by rw [List.length_map];have:=HTL.out;have:=HN.out;omega) ?_;(case aP=>exact k141_mkM _ _ _ z);intro v1 w77 ho hb hg hat;replace hg:w15.grownBy w77 (Value.slice Au pre.length cu).ownBlock:=hg;rw [show pre.length=(pre.map (goalOf l)).length from (List.length_map _).symm] at hg
            have OWN: ∀k,(Value.slice Au (pre.map (goalOf l)).length cu).ownBlock=some k→ ∃cells,w15.heap[k]?=some (Obj.cells cells 141 (0,0)):=fun k hk=>by
              obtain ⟨inner,h⟩:=Kd.R_own HG.out;exact own_typed h k hk
            have n0_:=am_ (blk_row BK.out OWN (by decide) hg);have n1_:=am_ (Kd.R_mono (Kd.R_grown (Kd.R_types2 HT.out OWN (by decide)) hg (fun k hk e=>hk e)) (fun _ _=>trivial));have n2_:=Aside0.mk ho;have n3_:=Aside0.mk hb;have n4_:=am_ (blk_put_other2 B12.out hg (fun e=>OL12_HG.out (by rw [e])));clear BK HT HG HB B12 ho hb hat OWN;have BK:=n0_;have HT:=n1_;have HG:=n2_;have HB:=n3_;have B12:=n4_;clear n0_ n1_ n2_ n3_ n4_;obtain ⟨A1,c1,e1⟩:=Kd.R_slice HG.out;subst e1;refine hK.out _ _ ⟨(blk_cell BK.out 0).trans rfl,B12.out⟩ (fun hHeld=> ?_);clear hK K hg;refine norm_ (a':= ?_) ?_ ?_;rotate_left
            · show Act.put _ (some 77) _ = _
              simp only [Act.put,List.setIfInBounds_toArray,List.set_cons_zero,List.set_cons_succ,i64_w,i32_w]
              rfl
            refine pv_ (i:=8) (N:=some 78) (bt_ 11 511) ?_;refine pv_ (i:=9) (N:=some 79) (bt_ 11 1023) ?_;refine last_ (i:=10) (N:=none) (bt_ 11 2047) rfl rfl (by kernel_rfl) (by decide) (fun K hK=> ?_);refine store_part_step BK.out (by rfl) 137 (.tmp 79) (.tmp 77) rfl rfl 0 (.slice A1 (pre.map (goalOf l)++ [z]).length c1) [.slice A1 (pre.map (goalOf l)++ [z]).length c1] [.slice A1 (pre.map (goalOf l)++ [z]).length c1, .bool wd2, .slice none 0 0] rfl rfl rfl (by kernel_rfl) (show (1:Nat)≤3 from by decide) (by intro q hq;simp only [List.mem_cons,List.not_mem_nil,or_false] at hq;rcases hq with rfl;rfl) rfl ?_;intro w78 hbk hg;have n0_:=am_ (R_put HG.out BK.out (by decide) hg);have n1_:=am_ (below_put HB.out (below_size HB.out) hg GE.out);have n2_:=am_ (R_put HT.out BK.out (by decide) hg);have n3_:=Aside0.mk hbk;clear HG HB HT BK hbk hg B12;have HG:=n0_;have HB:=n1_;have HT:=n2_;have BK:=n3_;clear n0_ n1_ n2_ n3_;refine hK.out _ _ ?_;clear hK K hHeld;refine done_ (by kernel_rfl) ?_;go_wp2_with fail
            go_roundg post.length
            case measure=>have:=HKQ.out;rw [this,List.length_cons];omega
            case rel=>exact ⟨pre++ [y],post,_,wd2,by rw [HTP.out,List.append_assoc];rfl,rfl,by rw [List.length_append,List.length_singleton,nx_nat (n:=top.length) (by have:=HN.out;omega) (by have:=HTL.out;omega)],HWD2,BK,⟨by rw [List.map_append];show Kd.R _ _ _ _ _ _ (_++ [goalOf l y]);rw [HZ.out];exact HG.out⟩,HT,HB⟩
end Go.Proofs.Ytahidkjncljkaaa.Print

namespace Go.Proofs.Ytahidkjncljkaaa.Print
open Go.RowKit Go.Proofs.YtahidkjncljkaaaW.PrintWords Go.Proofs.YtahidkjncljkaaaW.PrintLast Go.Proofs.YtahidkjncljkaaaW.PrintMore
attribute [local go_sem] max2_int min2_int max_two min_two max_three min_three max_four min_four

noncomputable def plan_Steps.f (l0:List (S39)) (l1:List (S84)) (l2:List (S79)):Option (List (S76)×Int):=open Classical in if h:(smallW l0∧l2.length<10000∧l1.length<10000)∧ ∃p:List (S76)×Int,PlanIs l0 (topR l0) l1 l2 p.1 p.2∧ ∀q:List (S76)×Int,PlanIs l0 (topR l0) l1 l2 q.1 q.2→q=p then some h.2.choose else none
theorem plan_Steps.calls (A0:Option Addr) (c0:Nat) (l0:List (S39)) (A1:Option Addr) (c1:Nat) (l1:List (S84)) (A2:Option Addr) (c2:Nat) (l2:List (S79)) (r1:List (S76)) (r2:Int) (w:World) (hr0:Kd.C k39 w A0 l0.length l0) (hc0:l0.length≤c0) (hr1:Kd.C k84 w A1 l1.length l1) (hc1:l1.length≤c1) (hr2:Kd.C k79 w A2 l2.length l2) (hc2:l2.length≤c2) (h:plan_Steps.f l0 l1 l2=some (r1,r2)):
    Calls Try.prog 48 #[.slice A0 l0.length c0, .slice A1 l1.length c1, .slice A2 l2.length c2] w fun e w'=> ∃v0_:Value,e= .returned (.tuple #[v0_, .int .i64 r2])∧Kd.R k76 76 w' w.heap.size (fun _=>True) v0_ r1∧Below w.heap.size w w':=by
  unfold plan_Steps.f at h
  split at h
  rotate_left
  · cases h


  rename_i hh
  have UQ: ∀q:List (S76)×Int,PlanIs l0 (topR l0) l1 l2 q.1 q.2→q=(r1,r2):=by
    have q:=Option.some.inj h;rw [←q];exact hh.2.choose_spec.2
  obtain ⟨⟨hs,hl,hm⟩,_⟩:=hh;refine (planSteps_raw A0 c0 l0 A1 c1 l1 A2 c2 l2 w hr0 hc0 hr1 hc1 hr2 hc2 hs hl hm).mono ?_;rintro e w' ⟨v,r,q,rfl,hp,ho,hb⟩;have e:=UQ (r,q) hp;injection e with e1 e2;subst e1 e2;exact ⟨v,rfl,ho,hb⟩
def r10_old.f (k:Nat) (l0:List (S79)) (a1:ByteArray) (a2:Int):Option (Int):=(r10_Find.f k l0 a1).bind fun t1=>(if t1<0 then (some 2) else (if a2≥0 then (if 0≤t1 then (if t1<(l0.length:Int) then (if ((rd_T79 l0 t1).f5)=a2 then (some 0) else (some 14)) else (none)) else (none)) else (some 0)))
theorem r10_old.mono: ∀a0 a1 a2 k,LeO (r10_old.f k a0 a1 a2) (r10_old.f (k+1) a0 a1 a2):=by
 intro a0 a1 a2 k;unfold r10_old.f
 repeat' with_reducible first|apply r10_Find.mono|apply LeO.refl|apply LeO.none|apply LeO.ite|refine LeO.bind ?_ fun _=> ?_
set_option maxHeartbeats 8000000 in
set_option maxRecDepth 100000 in
theorem r10_old.calls (k:Nat) (A0:Option Addr) (c0:Nat) (l0:List (S79)) (a1:ByteArray) (a2:Int) (r:Int) (w:World) (hr0:Kd.C k79 w A0 l0.length l0) (hc0:l0.length≤c0) (h:r10_old.f k l0 a1 a2=some r):
  Calls Try.prog 133 #[.slice A0 l0.length c0, .string a1, .int .i64 a2] w fun e w'=>e= .returned (.int .i64 r)∧Drawn0 w w':=by
 have HR0:=Aside0.mk hr0;have HC0:=Aside0.mk hc0;clear hr0 hc0;have H:((r10_Find.f k l0 a1).bind fun t1=>(if t1<0 then (some 2) else (if a2≥0 then (if 0≤t1 then (if t1<(l0.length:Int) then (if ((rd_T79 l0 t1).f5)=a2 then (some 0) else (some 14)) else (none)) else (none)) else (some 0))))=some r:=h;clear h;replace H:=zbd_ H;obtain ⟨t1,A4,H⟩:=H;try dsimp only at H
 by_cases c5:t1<0
 ·rw [if_pos c5] at H;have c5b0:=decide_eq_true c5;clear c5;obtain rfl:=Option.some.inj H;go_enter Try.func133,Try.ntmps133;go_wp2_with (first|((with_reducible refine gate_callee (f:=52) rfl ?_);refine gl_ (some 10) Try.func52 #[.slice A0 l0.length c0, .string a1] ?_;(with_reducible refine (r10_Find.calls k _ _ l0 a1 t1 _ ?side1 ?side2 A4.out).mono ?_);(case side1=>repeat (first|exact HR0.out|(with_reducible refine Kd.C_alloc ?_ _)|(with_reducible refine Kd.C_drewN ?_ _)|(with_reducible refine Kd.C_drew ?_)));(case side2=>exact HC0.out);rintro e w' ⟨rfl,⟨nd,rfl⟩⟩;refine ⟨_,rfl, ?_⟩))
  go_ret
  exact ⟨by first|rfl|(simp;done)|(simp [*];done),by repeat (first|exact Drawn0.refl _|apply Drawn0.step)⟩
 rw [if_neg c5] at H;have c5b0:=decide_eq_false c5;clear c5;by_cases c6:a2≥0;rotate_left
 ·rw [if_neg c6] at H;have c6b0:decide (0≤a2)=false:=decide_eq_false c6;clear c6;obtain rfl:=Option.some.inj H;go_enter Try.func133,Try.ntmps133;go_wp2_with (first|((with_reducible refine gate_callee (f:=52) rfl ?_);refine gl_ (some 10) Try.func52 #[.slice A0 l0.length c0, .string a1] ?_;(with_reducible refine (r10_Find.calls k _ _ l0 a1 t1 _ ?side1 ?side2 A4.out).mono ?_);(case side1=>repeat (first|exact HR0.out|(with_reducible refine Kd.C_alloc ?_ _)|(with_reducible refine Kd.C_drewN ?_ _)|(with_reducible refine Kd.C_drew ?_)));(case side2=>exact HC0.out);rintro e w' ⟨rfl,⟨nd,rfl⟩⟩;refine ⟨_,rfl, ?_⟩))
  go_ret
  exact ⟨by first|rfl|(simp;done)|(simp [*];done),by repeat (first|exact Drawn0.refl _|apply Drawn0.step)⟩

 rw [if_pos c6] at H;have c6b0:decide (0≤a2)=true:=decide_eq_true c6;clear c6;replace H:=zif_ H;obtain ⟨c7,H⟩:=H;have c7b0:=decide_eq_true c7;clear c7;replace H:=zif_ H;obtain ⟨c8,H⟩:=H;have c8b0:=decide_eq_true c8;clear c8;by_cases c9:((rd_T79 l0 t1).f5)=a2
 ·rw [if_pos c9] at H;have c9b0:=beq_iff_eq.mpr c9;have c9b1:=bne_eq_false_iff_eq.mpr c9;clear c9;obtain rfl:=Option.some.inj H;go_enter Try.func133,Try.ntmps133;go_wp2_with (first|((with_reducible refine gate_callee (f:=52) rfl ?_);refine gl_ (some 10) Try.func52 #[.slice A0 l0.length c0, .string a1] ?_;(with_reducible refine (r10_Find.calls k _ _ l0 a1 t1 _ ?side1 ?side2 A4.out).mono ?_);(case side1=>repeat (first|exact HR0.out|(with_reducible refine Kd.C_alloc ?_ _)|(with_reducible refine Kd.C_drewN ?_ _)|(with_reducible refine Kd.C_drew ?_)));(case side2=>exact HC0.out);rintro e w' ⟨rfl,⟨nd,rfl⟩⟩;refine ⟨_,rfl, ?_⟩;have p2:0≤(t1:Int):=of_decide_eq_true zq_;have q2:t1<(l0.length:Int):=of_decide_eq_true zq_;obtain ⟨ad2,e2,hx2_0,hx2_1,hx2_2,hx2_3,hx2_4,hx2_5,hx2_6,hx2_7,hx2_8,hx2_9,hx2_10,hx2_11⟩:=at_T79 HR0.out t1 p2 q2;cases e2;replace p2:=eq_true p2;replace q2:=eq_true q2))
  go_ret
  exact ⟨by first|rfl|(simp;done)|(simp [*];done),by repeat (first|exact Drawn0.refl _|apply Drawn0.step)⟩
 rw [if_neg c9] at H;have c9b0:=beq_eq_false_iff_ne.mpr c9;have c9b1:=bne_iff_ne.mpr c9;obtain rfl:=Option.some.inj H;go_enter Try.func133,Try.ntmps133;go_wp2_with (first|((with_reducible refine gate_callee (f:=52) rfl ?_);refine gl_ (some 10) Try.func52 #[.slice A0 l0.length c0, .string a1] ?_;(with_reducible refine (r10_Find.calls k _ _ l0 a1 t1 _ ?side1 ?side2 A4.out).mono ?_);(case side1=>repeat (first|exact HR0.out|(with_reducible refine Kd.C_alloc ?_ _)|(with_reducible refine Kd.C_drewN ?_ _)|(with_reducible refine Kd.C_drew ?_)));(case side2=>exact HC0.out);rintro e w' ⟨rfl,⟨nd,rfl⟩⟩;refine ⟨_,rfl, ?_⟩;have p2:0≤(t1:Int):=of_decide_eq_true zq_;have q2:t1<(l0.length:Int):=of_decide_eq_true zq_;obtain ⟨ad2,e2,hx2_0,hx2_1,hx2_2,hx2_3,hx2_4,hx2_5,hx2_6,hx2_7,hx2_8,hx2_9,hx2_10,hx2_11⟩:=at_T79 HR0.out t1 p2 q2;cases e2;replace p2:=eq_true p2;replace q2:=eq_true q2))
 go_ret
 exact ⟨by first|rfl|(simp;done)|(simp [*];done),by repeat (first|exact Drawn0.refl _|apply Drawn0.step)⟩
def r10_Limit.f (k:Nat) (l0:List (S79)) (a1:ByteArray) (a2_0:Int) (a2_1:Int) (a2_2:Int) (a3:Int):Option ((List (S79))×Int):=(r10_MayVec.f a2_0 a2_1 a2_2).bind fun t3=>(if t3=true then ((r10_old.f k l0 a1 a3).bind fun t8=>(if t8=0 then ((r10_copied.f l0).bind fun t13=>((r10_Find.f k t13 a1).bind fun t16=>(if 0≤t16 then (if t16<(t13.length:Int) then (if ((rd_T79 t13 t16).f5)≥9007199254740992 then ((r10_no.f 4).bind fun bt18=>(some (bt18.1,bt18.2))) else ((r10_Le.f ((rd_T79 t13 t16).f4.f0) ((rd_T79 t13 t16).f4.f1) ((rd_T79 t13 t16).f4.f2) a2_0 a2_1 a2_2).bind fun t23=>(if t23=true then ((some (t13.set (t16:Int).toNat (⟨(rd_T79 t13 t16).f0,(rd_T79 t13 t16).f1,(⟨a2_0,a2_1,a2_2⟩:S37),(⟨(rd_T79 t13 t16).f3.f0,(rd_T79 t13 t16).f3.f1,(rd_T79 t13 t16).f3.f2⟩:S37),(⟨(rd_T79 t13 t16).f4.f0,(rd_T79 t13 t16).f4.f1,(rd_T79 t13 t16).f4.f2⟩:S37),(rd_T79 t13 t16).f5⟩:S79):List (S79))).bind fun y24=>(some ((y24.set (t16:Int).toNat (⟨(rd_T79 y24 t16).f0,(rd_T79 y24 t16).f1,(⟨(rd_T79 y24 t16).f2.f0,(rd_T79 y24 t16).f2.f1,(rd_T79 y24 t16).f2.f2⟩:S37),(⟨(rd_T79 y24 t16).f3.f0,(rd_T79 y24 t16).f3.f1,(rd_T79 y24 t16).f3.f2⟩:S37),(⟨(rd_T79 y24 t16).f4.f0,(rd_T79 y24 t16).f4.f1,(rd_T79 y24 t16).f4.f2⟩:S37),wrap64 (((rd_T79 y24 t16).f5)+1)⟩:S79)),0))) else ((r10_no.f 12).bind fun bt27=>(some (bt27.1,bt27.2)))))) else (none)) else (none)))) else ((r10_no.f t8).bind fun bt9=>(some (bt9.1,bt9.2))))) else ((r10_no.f 1).bind fun bt4=>(some (bt4.1,bt4.2))))
theorem r10_Limit.mono: ∀a0 a1 a2 a3 a4 a5 k,LeO (r10_Limit.f k a0 a1 a2 a3 a4 a5) (r10_Limit.f (k+1) a0 a1 a2 a3 a4 a5):=by
 intro a0 a1 a2 a3 a4 a5 k;unfold r10_Limit.f
 repeat' with_reducible first|apply r10_Find.mono|apply r10_old.mono|apply LeO.refl|apply LeO.none|apply LeO.ite|refine LeO.bind ?_ fun _=> ?_
def r10_Limit.T10:Bool×List (List Nat×List Nat):=(true,[([],[]),([],[]),([0,1],[0,1]),([2],[2]),([3],[3]),([],[]),([4,5],[4,5]),([6],[6]),([7,6],[7])])
def r10_Limit.B10:List Nat:=[0,0,3,7,15,0,63,127,255]
theorem r10_Limit.tab10:rtab .any (opsOf Try.f98 10)=r10_Limit.T10:=by kernel_rfl
theorem r10_Limit.bits10:waitsOk r10_Limit.T10.2 r10_Limit.B10=true:=by kernel_rfl
set_option maxHeartbeats 8000000 in
set_option maxRecDepth 100000 in
theorem r10_Limit.calls (k:Nat) (A0:Option Addr) (c0:Nat) (l0:List (S79)) (a1:ByteArray) (a2_0:Int) (a2_1:Int) (a2_2:Int) (a3:Int) (r1:List (S79)) (r2:Int) (w:World) (hr0:Kd.C k79 w A0 l0.length l0) (hc0:l0.length≤c0) (h:r10_Limit.f k l0 a1 a2_0 a2_1 a2_2 a3=some (r1,r2)):
  Calls Try.prog 98 #[.slice A0 l0.length c0, .string a1, .agg #[.int .i64 a2_0, .int .i64 a2_1, .int .i64 a2_2], .int .i64 a3] w fun e w'=> ∃v0_:Value,e= .returned (.agg #[v0_, .int .i64 r2])∧Kd.R k79 79 w' w.heap.size (fun _=>True) v0_ r1∧Below w.heap.size w w':=by
 have hu37:=Try.underlying37;have hu73:=Try.underlying73;have HR0:=Aside0.mk hr0;have HC0:=Aside0.mk hc0;clear hr0 hc0;have HB:=am_ (Below.refl w.heap.size w)
 have H:((r10_MayVec.f a2_0 a2_1 a2_2).bind fun t3=>(if t3=true then ((r10_old.f k l0 a1 a3).bind fun t8=>(if t8=0 then ((r10_copied.f l0).bind fun t13=>((r10_Find.f k t13 a1).bind fun t16=>(if 0≤t16 then (if t16<(t13.length:Int) then (if ((rd_T79 t13 t16).f5)≥9007199254740992 then ((r10_no.f 4).bind fun bt18=>(some (bt18.1,bt18.2))) else ((r10_Le.f ((rd_T79 t13 t16).f4.f0) ((rd_T79 t13 t16).f4.f1) ((rd_T79 t13 t16).f4.f2) a2_0 a2_1 a2_2).bind fun t23=>(if t23=true then ((some (t13.set (t16:Int).toNat (⟨(rd_T79 t13 t16).f0,(rd_T79 t13 t16).f1,(⟨a2_0,a2_1,a2_2⟩:S37),(⟨(rd_T79 t13 t16).f3.f0,(rd_T79 t13 t16).f3.f1,(rd_T79 t13 t16).f3.f2⟩:S37),(⟨(rd_T79 t13 t16).f4.f0,(rd_T79 t13 t16).f4.f1,(rd_T79 t13 t16).f4.f2⟩:S37),(rd_T79 t13 t16).f5⟩:S79):List (S79))).bind fun y24=>(some ((y24.set (t16:Int).toNat (⟨(rd_T79 y24 t16).f0,(rd_T79 y24 t16).f1,(⟨(rd_T79 y24 t16).f2.f0,(rd_T79 y24 t16).f2.f1,(rd_T79 y24 t16).f2.f2⟩:S37),(⟨(rd_T79 y24 t16).f3.f0,(rd_T79 y24 t16).f3.f1,(rd_T79 y24 t16).f3.f2⟩:S37),(⟨(rd_T79 y24 t16).f4.f0,(rd_T79 y24 t16).f4.f1,(rd_T79 y24 t16).f4.f2⟩:S37),wrap64 (((rd_T79 y24 t16).f5)+1)⟩:S79)),0))) else ((r10_no.f 12).bind fun bt27=>(some (bt27.1,bt27.2)))))) else (none)) else (none)))) else ((r10_no.f t8).bind fun bt9=>(some (bt9.1,bt9.2))))) else ((r10_no.f 1).bind fun bt4=>(some (bt4.1,bt4.2)))))=some (r1,r2):=h;clear h;replace H:=zbd_ H;obtain ⟨t3,A5,H⟩:=H;try dsimp only at H
 by_cases c6:t3=true;rotate_left
 ·replace c6:=Bool.eq_false_iff.mpr c6;subst c6;rw [if_neg (show¬(false=true) by decide)] at H;replace H:=zbd_ H;obtain ⟨⟨t4,t7⟩,A66,H⟩:=H;try dsimp only at H
  simp only [Option.some.injEq,Prod.mk.injEq] at H;obtain ⟨rfl,rfl⟩:=H;go_enter Try.func98,Try.ntmps98
  go_wp2_with (first|((with_reducible refine gate_dst (N:=6) rfl ?_);refine bx_ (N:=6) (cs:=#[.int .i64 a2_0, .int .i64 a2_1, .int .i64 a2_2]) (t:=37) ?_;intro gb1 hg w67 hbox hb;have BK1:=am_ (hbox);have GE1:=am_ ((zg0_ HB hg:w.heap.size≤gb1));replace HB:=am_ (below_step (zl0_ HB) hb);clear hb hbox hg)|((with_reducible refine gate_dst (N:=8) rfl ?_);refine bx_ (N:=8) (cs:=#[.slice none 0 0, .int .i64 0]) (t:=73) ?_;intro gb2 hg w68 hbox hb;have BK2:=am_ (hbox);have GE2:=am_ ((zg1_ HB GE1 hg:w.heap.size≤gb2));replace HB:=am_ (below_step (zl1_ HB GE1) hb);have NB1_2:=am_ ((zn_ BK1 hg:gb1≠gb2));have NB2_1:=am_ ((zm_ BK1 hg:gb2≠gb1));replace BK1:=bb_ BK1 hb;clear hb hbox hg;have hnb69:=NB1_2.out;have hnc69:=NB2_1.out;obtain ⟨hcz70_0,hcz70_1,hcz70_2⟩:=x3_ BK1;have hfz70_0:=blk_frozen BK1.out 0;have hfz70_1:=blk_frozen BK1.out 1;have hfz70_2:=blk_frozen BK1.out 2)|((with_reducible refine gate_callee (f:=68) rfl ?_);refine gl_ (some 13) Try.func68 #[.agg #[.int .i64 a2_0, .int .i64 a2_1, .int .i64 a2_2]] ?_;(with_reducible refine (r10_MayVec.calls a2_0 a2_1 a2_2 false _ A5.out).mono ?_);rintro e w71 ⟨rfl,hb⟩;refine ⟨_,rfl, ?_⟩;replace BK1:=bb_ BK1 hb;replace BK2:=bb_ BK2 hb;replace HB:=am_ (below_step (zl2_ HB GE1 GE2) hb);(try clear hb))|((with_reducible refine gate_callee (f:=101) rfl ?_);refine gl_ (some 15) Try.func101 #[.int .i64 1] ?_;(with_reducible refine (r10_no.calls 1 t4 t7 _ A66.out).mono ?_);rintro e w72 ⟨v5,rfl,ho0,hb⟩;refine ⟨_,rfl, ?_⟩;have HO6:=am_ (Kd.R_lower ho0 (below_size (zl2_ HB GE1 GE2)));replace BK1:=bb_ BK1 hb;replace BK2:=bb_ BK2 hb;replace HB:=am_ (below_step (zl2_ HB GE1 GE2) hb);(try clear hb ho0);obtain ⟨Ao73,co73,eo73⟩:=Kd.R_slice HO6.out;subst eo73;obtain ⟨hcz74_0,hcz74_1⟩:=x2_ BK2;have hfz74_0:=blk_frozen BK2.out 0;have hfz74_1:=blk_frozen BK2.out 1))
  refine bodyPost_ret (results_cell_row rfl _ _ gb2 73 #[.slice Ao73 t4.length co73, .int .i64 t7] (0,0) _ rfl (zw_ BK2) Try.underlying73 rfl (by kernel_rfl)) rfl ?_;exact ⟨_,by first|rfl|(simp [errW_none,errW_some]<;>rfl)|(simp [*,errW_none,errW_some]<;>rfl),zy_ HO6 BK2,zl2_ HB GE1 GE2⟩

 subst c6;rw [if_pos rfl] at H;replace H:=zbd_ H;obtain ⟨t8,A7,H⟩:=H;try dsimp only at H
 by_cases c8:t8=0;rotate_left
 ·rw [if_neg c8] at H;have c8b0:=beq_eq_false_iff_ne.mpr c8;have c8b1:=bne_iff_ne.mpr c8;replace H:=zbd_ H;obtain ⟨⟨t9,t12⟩,A57,H⟩:=H;try dsimp only at H
  simp only [Option.some.injEq,Prod.mk.injEq] at H;obtain ⟨rfl,rfl⟩:=H;go_enter Try.func98,Try.ntmps98
  go_wp2_with (first|((with_reducible refine gate_dst (N:=6) rfl ?_);refine bx_ (N:=6) (cs:=#[.int .i64 a2_0, .int .i64 a2_1, .int .i64 a2_2]) (t:=37) ?_;intro gb1 hg w58 hbox hb;have BK1:=am_ (hbox);have GE1:=am_ ((zg0_ HB hg:w.heap.size≤gb1));replace HB:=am_ (below_step (zl0_ HB) hb);clear hb hbox hg)|((with_reducible refine gate_dst (N:=8) rfl ?_);refine bx_ (N:=8) (cs:=#[.slice none 0 0, .int .i64 0]) (t:=73) ?_;intro gb2 hg w59 hbox hb;have BK2:=am_ (hbox);have GE2:=am_ ((zg1_ HB GE1 hg:w.heap.size≤gb2));replace HB:=am_ (below_step (zl1_ HB GE1) hb);have NB1_2:=am_ ((zn_ BK1 hg:gb1≠gb2));have NB2_1:=am_ ((zm_ BK1 hg:gb2≠gb1));replace BK1:=bb_ BK1 hb;clear hb hbox hg;have hnb60:=NB1_2.out;have hnc60:=NB2_1.out;obtain ⟨hcz61_0,hcz61_1,hcz61_2⟩:=x3_ BK1;have hfz61_0:=blk_frozen BK1.out 0;have hfz61_1:=blk_frozen BK1.out 1;have hfz61_2:=blk_frozen BK1.out 2)|((with_reducible refine gate_callee (f:=68) rfl ?_);refine gl_ (some 13) Try.func68 #[.agg #[.int .i64 a2_0, .int .i64 a2_1, .int .i64 a2_2]] ?_;(with_reducible refine (r10_MayVec.calls a2_0 a2_1 a2_2 true _ A5.out).mono ?_);rintro e w62 ⟨rfl,hb⟩;refine ⟨_,rfl, ?_⟩;replace BK1:=bb_ BK1 hb;replace BK2:=bb_ BK2 hb;replace HB:=am_ (below_step (zl2_ HB GE1 GE2) hb);(try clear hb))|((with_reducible refine gate_callee (f:=133) rfl ?_);refine gl_ (some 19) Try.func133 #[.slice A0 l0.length c0, .string a1, .int .i64 a3] ?_;(with_reducible refine (r10_old.calls k _ _ l0 a1 a3 t8 _ ?side1 ?side2 A7.out).mono ?_);(case side1=>exact zc_ (Kd.C_below HR0.out HB.out));(case side2=>exact HC0.out);rintro e w' ⟨rfl,⟨nd,rfl⟩⟩;refine ⟨_,rfl, ?_⟩;(try (rw [drewN_self w62];generalize hq_:World.drewN w62 _=w62;replace BK1:=am_ (blk_at hq_ BK1.out);replace BK2:=am_ (blk_at hq_ BK2.out);replace HB:=am_ (below_at hq_ HB.out);clear hq_)))|((with_reducible refine gate_callee (f:=101) rfl ?_);refine gl_ (some 23) Try.func101 #[.int .i64 t8] ?_;(with_reducible refine (r10_no.calls t8 t9 t12 _ A57.out).mono ?_);rintro e w63 ⟨v10,rfl,ho0,hb⟩;refine ⟨_,rfl, ?_⟩;have HO11:=am_ (Kd.R_lower ho0 (below_size (zl2_ HB GE1 GE2)));replace BK1:=bb_ BK1 hb;replace BK2:=bb_ BK2 hb;replace HB:=am_ (below_step (zl2_ HB GE1 GE2) hb);(try clear hb ho0);obtain ⟨Ao64,co64,eo64⟩:=Kd.R_slice HO11.out;subst eo64;obtain ⟨hcz65_0,hcz65_1⟩:=x2_ BK2;have hfz65_0:=blk_frozen BK2.out 0;have hfz65_1:=blk_frozen BK2.out 1))
  refine bodyPost_ret (results_cell_row rfl _ _ gb2 73 #[.slice Ao64 t9.length co64, .int .i64 t12] (0,0) _ rfl (zw_ BK2) Try.underlying73 rfl (by kernel_rfl)) rfl ?_;exact ⟨_,by first|rfl|(simp [errW_none,errW_some]<;>rfl)|(simp [*,errW_none,errW_some]<;>rfl),zy_ HO11 BK2,zl2_ HB GE1 GE2⟩
 rw [if_pos c8] at H;have c8b0:=beq_iff_eq.mpr c8;have c8b1:=bne_eq_false_iff_eq.mpr c8;clear c8;replace H:=zbd_ H;obtain ⟨t13,A9,H⟩:=H;try dsimp only at H
 replace H:=zbd_ H;obtain ⟨t16,A10,H⟩:=H;try dsimp only at H
 replace H:=zif_ H;obtain ⟨c11,H⟩:=H;have c11b0:=decide_eq_true c11;clear c11;replace H:=zif_ H;obtain ⟨c12,H⟩:=H;have c12b0:=decide_eq_true c12;clear c12;by_cases c13:((rd_T79 t13 t16).f5)≥9007199254740992
 ·rw [if_pos c13] at H;have c13b0:decide (9007199254740992≤((rd_T79 t13 t16).f5))=true:=decide_eq_true c13;clear c13;replace H:=zbd_ H;obtain ⟨⟨t18,t21⟩,A14,H⟩:=H;try dsimp only at H
  simp only [Option.some.injEq,Prod.mk.injEq] at H;obtain ⟨rfl,rfl⟩:=H;go_enter Try.func98,Try.ntmps98
  go_wp2_with (first|((with_reducible refine gate_dst (N:=6) rfl ?_);refine bx_ (N:=6) (cs:=#[.int .i64 a2_0, .int .i64 a2_1, .int .i64 a2_2]) (t:=37) ?_;intro gb1 hg w15 hbox hb;have BK1:=am_ (hbox);have GE1:=am_ ((zg0_ HB hg:w.heap.size≤gb1));replace HB:=am_ (below_step (zl0_ HB) hb);clear hb hbox hg)|((with_reducible refine gate_dst (N:=8) rfl ?_);refine bx_ (N:=8) (cs:=#[.slice none 0 0, .int .i64 0]) (t:=73) ?_;intro gb2 hg w16 hbox hb;have BK2:=am_ (hbox);have GE2:=am_ ((zg1_ HB GE1 hg:w.heap.size≤gb2));replace HB:=am_ (below_step (zl1_ HB GE1) hb);have NB1_2:=am_ ((zn_ BK1 hg:gb1≠gb2));have NB2_1:=am_ ((zm_ BK1 hg:gb2≠gb1));replace BK1:=bb_ BK1 hb;clear hb hbox hg;have hnb17:=NB1_2.out;have hnc17:=NB2_1.out;obtain ⟨hcz18_0,hcz18_1,hcz18_2⟩:=x3_ BK1;have hfz18_0:=blk_frozen BK1.out 0;have hfz18_1:=blk_frozen BK1.out 1;have hfz18_2:=blk_frozen BK1.out 2)|((with_reducible refine gate_callee (f:=68) rfl ?_);refine gl_ (some 13) Try.func68 #[.agg #[.int .i64 a2_0, .int .i64 a2_1, .int .i64 a2_2]] ?_;(with_reducible refine (r10_MayVec.calls a2_0 a2_1 a2_2 true _ A5.out).mono ?_);rintro e w19 ⟨rfl,hb⟩;refine ⟨_,rfl, ?_⟩;replace BK1:=bb_ BK1 hb;replace BK2:=bb_ BK2 hb;replace HB:=am_ (below_step (zl2_ HB GE1 GE2) hb);(try clear hb))|((with_reducible refine gate_callee (f:=133) rfl ?_);refine gl_ (some 19) Try.func133 #[.slice A0 l0.length c0, .string a1, .int .i64 a3] ?_;(with_reducible refine (r10_old.calls k _ _ l0 a1 a3 t8 _ ?side1 ?side2 A7.out).mono ?_);(case side1=>exact zc_ (Kd.C_below HR0.out HB.out));(case side2=>exact HC0.out);rintro e w' ⟨rfl,⟨nd,rfl⟩⟩;refine ⟨_,rfl, ?_⟩;(try (rw [drewN_self w19];generalize hq_:World.drewN w19 _=w19;replace BK1:=am_ (blk_at hq_ BK1.out);replace BK2:=am_ (blk_at hq_ BK2.out);replace HB:=am_ (below_at hq_ HB.out);clear hq_)))|((with_reducible refine gate_callee (f:=119) rfl ?_);refine gl_ (some 25) Try.func119 #[.slice A0 l0.length c0] ?_;(with_reducible refine (r10_copied.calls _ _ l0 t13 _ ?side1 ?side2 A9.out).mono ?_);(case side1=>exact zc_ (Kd.C_below HR0.out HB.out));(case side2=>exact HC0.out);rintro e w20 ⟨v14,rfl,ho0,hb⟩;refine ⟨_,rfl, ?_⟩;have HO15:=am_ (Kd.R_lower ho0 (below_size (zl2_ HB GE1 GE2)));replace BK1:=bb_ BK1 hb;replace BK2:=bb_ BK2 hb;replace HB:=am_ (below_step (zl2_ HB GE1 GE2) hb);(try clear hb ho0);obtain ⟨Ao21,co21,eo21⟩:=Kd.R_slice HO15.out;subst eo21)|((with_reducible refine gate_callee (f:=52) rfl ?_);refine gl_ (some 28) Try.func52 #[.slice Ao21 t13.length co21, .string a1] ?_;(with_reducible refine (r10_Find.calls k _ _ t13 a1 t16 _ ?side1 ?side2 A10.out).mono ?_);(case side1=>exact zc_ (Kd.R_reads' HO15.out).2.2);(case side2=>exact (Kd.R_reads' HO15.out).2.1);rintro e w' ⟨rfl,⟨nd,rfl⟩⟩;refine ⟨_,rfl, ?_⟩;(try (rw [drewN_self w20];generalize hq_:World.drewN w20 _=w20;replace HO15:=am_ (Kd.R_at hq_ HO15.out);replace BK1:=am_ (blk_at hq_ BK1.out);replace BK2:=am_ (blk_at hq_ BK2.out);replace HB:=am_ (below_at hq_ HB.out);clear hq_));have p17:0≤(t16:Int):=of_decide_eq_true zq_;have q17:t16<(t13.length:Int):=of_decide_eq_true zq_;obtain ⟨ad17,e17,hx17_0,hx17_1,hx17_2,hx17_3,hx17_4,hx17_5,hx17_6,hx17_7,hx17_8,hx17_9,hx17_10,hx17_11⟩:=at_T79 (Kd.R_reads' HO15.out).2.2 t16 p17 q17;cases e17;replace p17:=eq_true p17;replace q17:=eq_true q17)|((with_reducible refine gate_callee (f:=101) rfl ?_);refine gl_ (some 36) Try.func101 #[.int .i64 4] ?_;(with_reducible refine (r10_no.calls 4 t18 t21 _ A14.out).mono ?_);rintro e w22 ⟨v19,rfl,ho0,hb⟩;refine ⟨_,rfl, ?_⟩;have HO20:=am_ (Kd.R_lower (Kd.R_new' ho0 (Kd.R_lt (zr_ HO15))) (below_size (zl2_ HB GE1 GE2)));replace HO15:=am_ (Kd.R_elder' (zr_ HO15) (Kd.R_base ho0) hb);replace BK1:=bb_ BK1 hb;replace BK2:=bb_ BK2 hb;replace HB:=am_ (below_step (zl2_ HB GE1 GE2) hb);(try clear hb ho0);obtain ⟨Ao23,co23,eo23⟩:=Kd.R_slice HO20.out;subst eo23;obtain ⟨hcz24_0,hcz24_1⟩:=x2_ BK2;have hfz24_0:=blk_frozen BK2.out 0;have hfz24_1:=blk_frozen BK2.out 1))
  refine bodyPost_ret (results_cell_row rfl _ _ gb2 73 #[.slice Ao23 t18.length co23, .int .i64 t21] (0,0) _ rfl (zw_ BK2) Try.underlying73 rfl (by kernel_rfl)) rfl ?_;exact ⟨_,by first|rfl|(simp [errW_none,errW_some]<;>rfl)|(simp [*,errW_none,errW_some]<;>rfl),zy_ HO20 BK2,zl2_ HB GE1 GE2⟩
 rw [if_neg c13] at H;have c13b0:decide (9007199254740992≤((rd_T79 t13 t16).f5))=false:=decide_eq_false c13;clear c13;replace H:=zbd_ H;obtain ⟨t23,A25,H⟩:=H;try dsimp only at H
 by_cases c26:t23=true;rotate_left
 ·replace c26:=Bool.eq_false_iff.mpr c26;subst c26;rw [if_neg (show¬(false=true) by decide)] at H;replace H:=zbd_ H;obtain ⟨⟨t27,t30⟩,A44,H⟩:=H;try dsimp only at H
  simp only [Option.some.injEq,Prod.mk.injEq] at H;obtain ⟨rfl,rfl⟩:=H;go_enter Try.func98,Try.ntmps98
  try go_wp2_with (first|((with_reducible refine gate_dst (N:=6) rfl ?_);refine bx_ (N:=6) (cs:=#[.int .i64 a2_0, .int .i64 a2_1, .int .i64 a2_2]) (t:=37) ?_;intro gb1 hg w45 hbox hb;have BK1:=am_ (hbox);have GE1:=am_ ((zg0_ HB hg:w.heap.size≤gb1));replace HB:=am_ (below_step (zl0_ HB) hb);clear hb hbox hg)|((with_reducible refine gate_dst (N:=8) rfl ?_);refine bx_ (N:=8) (cs:=#[.slice none 0 0, .int .i64 0]) (t:=73) ?_;intro gb2 hg w46 hbox hb;have BK2:=am_ (hbox);have GE2:=am_ ((zg1_ HB GE1 hg:w.heap.size≤gb2));replace HB:=am_ (below_step (zl1_ HB GE1) hb);have NB1_2:=am_ ((zn_ BK1 hg:gb1≠gb2));have NB2_1:=am_ ((zm_ BK1 hg:gb2≠gb1));replace BK1:=bb_ BK1 hb;clear hb hbox hg;have hnb47:=NB1_2.out;have hnc47:=NB2_1.out;obtain ⟨hcz48_0,hcz48_1,hcz48_2⟩:=x3_ BK1;have hfz48_0:=blk_frozen BK1.out 0;have hfz48_1:=blk_frozen BK1.out 1;have hfz48_2:=blk_frozen BK1.out 2)|((with_reducible refine gate_callee (f:=68) rfl ?_);refine gl_ (some 13) Try.func68 #[.agg #[.int .i64 a2_0, .int .i64 a2_1, .int .i64 a2_2]] ?_;(with_reducible refine (r10_MayVec.calls a2_0 a2_1 a2_2 true _ A5.out).mono ?_);rintro e w49 ⟨rfl,hb⟩;refine ⟨_,rfl, ?_⟩;replace BK1:=bb_ BK1 hb;replace BK2:=bb_ BK2 hb;replace HB:=am_ (below_step (zl2_ HB GE1 GE2) hb);(try clear hb))|((with_reducible refine gate_callee (f:=133) rfl ?_);refine gl_ (some 19) Try.func133 #[.slice A0 l0.length c0, .string a1, .int .i64 a3] ?_;(with_reducible refine (r10_old.calls k _ _ l0 a1 a3 t8 _ ?side1 ?side2 A7.out).mono ?_);(case side1=>exact zc_ (Kd.C_below HR0.out HB.out));(case side2=>exact HC0.out);rintro e w' ⟨rfl,⟨nd,rfl⟩⟩;refine ⟨_,rfl, ?_⟩;(try (rw [drewN_self w49];generalize hq_:World.drewN w49 _=w49;replace BK1:=am_ (blk_at hq_ BK1.out);replace BK2:=am_ (blk_at hq_ BK2.out);replace HB:=am_ (below_at hq_ HB.out);clear hq_)))|((with_reducible refine gate_callee (f:=119) rfl ?_);refine gl_ (some 25) Try.func119 #[.slice A0 l0.length c0] ?_;(with_reducible refine (r10_copied.calls _ _ l0 t13 _ ?side1 ?side2 A9.out).mono ?_);(case side1=>exact zc_ (Kd.C_below HR0.out HB.out));(case side2=>exact HC0.out);rintro e w50 ⟨v14,rfl,ho0,hb⟩;refine ⟨_,rfl, ?_⟩;have HO15:=am_ (Kd.R_lower ho0 (below_size (zl2_ HB GE1 GE2)));replace BK1:=bb_ BK1 hb;replace BK2:=bb_ BK2 hb;replace HB:=am_ (below_step (zl2_ HB GE1 GE2) hb);(try clear hb ho0);obtain ⟨Ao51,co51,eo51⟩:=Kd.R_slice HO15.out;subst eo51)|((with_reducible refine gate_callee (f:=52) rfl ?_);refine gl_ (some 28) Try.func52 #[.slice Ao51 t13.length co51, .string a1] ?_;(with_reducible refine (r10_Find.calls k _ _ t13 a1 t16 _ ?side1 ?side2 A10.out).mono ?_);(case side1=>exact zc_ (Kd.R_reads' HO15.out).2.2);(case side2=>exact (Kd.R_reads' HO15.out).2.1);rintro e w' ⟨rfl,⟨nd,rfl⟩⟩;refine ⟨_,rfl, ?_⟩;(try (rw [drewN_self w50];generalize hq_:World.drewN w50 _=w50;replace HO15:=am_ (Kd.R_at hq_ HO15.out);replace BK1:=am_ (blk_at hq_ BK1.out);replace BK2:=am_ (blk_at hq_ BK2.out);replace HB:=am_ (below_at hq_ HB.out);clear hq_));have p17:0≤(t16:Int):=of_decide_eq_true zq_;have q17:t16<(t13.length:Int):=of_decide_eq_true zq_;obtain ⟨ad17,e17,hx17_0,hx17_1,hx17_2,hx17_3,hx17_4,hx17_5,hx17_6,hx17_7,hx17_8,hx17_9,hx17_10,hx17_11⟩:=at_T79 (Kd.R_reads' HO15.out).2.2 t16 p17 q17;cases e17;replace p17:=eq_true p17;replace q17:=eq_true q17))
  replace HO15:=am_ (Kd.R_drew HO15.out);replace BK1:=am_ (blk_drew BK1.out);replace BK2:=am_ (blk_drew BK2.out);replace HB:=am_ (below_drew1 HB.out);obtain ⟨p22,q22,ad22,e22,hx22_0,hx22_1,hx22_2,hx22_3,hx22_4,hx22_5,hx22_6,hx22_7,hx22_8,hx22_9,hx22_10,hx22_11⟩:=zat_ (at_T79 (Kd.R_reads' HO15.out).2.2 t16);obtain rfl:ad17=ad22:=(by injection e22)
  refine start_ (n:=9) (S:=fun w'=>w'.cell? ⟨gb1,0,none⟩=some (.int .i64 a2_0)∧w'.cell? ⟨gb1,1,none⟩=some (.int .i64 a2_1)∧w'.cell? ⟨gb1,2,none⟩=some (.int .i64 a2_2)∧w'.cell? (ad17.add ((t16).toNat*12))=some (.string ((rd_T79 t13 t16).f0))∧w'.cell? ⟨(ad17.add ((t16).toNat*12)).block,(ad17.add ((t16).toNat*12)).off+1,none⟩=some (.string ((rd_T79 t13 t16).f1))∧w'.cell? ⟨(ad17.add ((t16).toNat*12)).block,(ad17.add ((t16).toNat*12)).off+2,none⟩=some (.int .i64 ((rd_T79 t13 t16).f2.f0))∧w'.cell? ⟨(ad17.add ((t16).toNat*12)).block,(ad17.add ((t16).toNat*12)).off+3,none⟩=some (.int .i64 ((rd_T79 t13 t16).f2.f1))∧w'.cell? ⟨(ad17.add ((t16).toNat*12)).block,(ad17.add ((t16).toNat*12)).off+4,none⟩=some (.int .i64 ((rd_T79 t13 t16).f2.f2))∧w'.cell? ⟨(ad17.add ((t16).toNat*12)).block,(ad17.add ((t16).toNat*12)).off+5,none⟩=some (.int .i64 ((rd_T79 t13 t16).f3.f0))∧w'.cell? ⟨(ad17.add ((t16).toNat*12)).block,(ad17.add ((t16).toNat*12)).off+6,none⟩=some (.int .i64 ((rd_T79 t13 t16).f3.f1))∧w'.cell? ⟨(ad17.add ((t16).toNat*12)).block,(ad17.add ((t16).toNat*12)).off+7,none⟩=some (.int .i64 ((rd_T79 t13 t16).f3.f2))∧w'.cell? ⟨(ad17.add ((t16).toNat*12)).block,(ad17.add ((t16).toNat*12)).off+8,none⟩=some (.int .i64 ((rd_T79 t13 t16).f4.f0))∧w'.cell? ⟨(ad17.add ((t16).toNat*12)).block,(ad17.add ((t16).toNat*12)).off+9,none⟩=some (.int .i64 ((rd_T79 t13 t16).f4.f1))∧w'.cell? ⟨(ad17.add ((t16).toNat*12)).block,(ad17.add ((t16).toNat*12)).off+10,none⟩=some (.int .i64 ((rd_T79 t13 t16).f4.f2))∧w'.cell? ⟨(ad17.add ((t16).toNat*12)).block,(ad17.add ((t16).toNat*12)).off+11,none⟩=some (.int .i64 ((rd_T79 t13 t16).f5))) (ds:=[]) (bs_ 9 0) (by kernel_rfl) rfl rfl ⟨(blk_cell BK1.out 0).trans rfl,(blk_cell BK1.out 1).trans rfl,(blk_cell BK1.out 2).trans rfl,hx22_0,hx22_1,hx22_2,hx22_3,hx22_4,hx22_5,hx22_6,hx22_7,hx22_8,hx22_9,hx22_10,hx22_11⟩ (fun hHeld=> ?_);refine with_tabW r10_Limit.tab10 r10_Limit.bits10 (fun HT_ HW_=> ?_)
  generalize w50.drew=w52 at HO15 BK1 BK2 HB hx22_0 hx22_1 hx22_10 hx22_11 hx22_2 hx22_3 hx22_4 hx22_5 hx22_6 hx22_7 hx22_8 hx22_9 hHeld ⊢;(iterate 4 refine qu_ HT_ ?_);(iterate 2 refine qk_ HT_ HW_ hHeld ?_);refine on_ (i:=6) (N:=some 44) (bs_ 9 7) HT_ (fun K hK=> ?_);refine gs_ Try.func71 #[.agg #[.int .i64 ((rd_T79 t13 t16).f4.f0), .int .i64 ((rd_T79 t13 t16).f4.f1), .int .i64 ((rd_T79 t13 t16).f4.f2)], .agg #[.int .i64 a2_0, .int .i64 a2_1, .int .i64 a2_2]] ?_
  with_reducible refine (r10_Le.calls ((rd_T79 t13 t16).f4.f0) ((rd_T79 t13 t16).f4.f1) ((rd_T79 t13 t16).f4.f2) a2_0 a2_1 a2_2 false _ A25.out).mono ?_
  rintro e w53 ⟨rfl,hb⟩;have HS3_:=zh_ hb (hHeld.2.2.2.1);have HS4_:=zh_ hb (hHeld.2.2.2.2.1);have HS5_:=zh_ hb (hHeld.2.2.2.2.2.1);have HS6_:=zh_ hb (hHeld.2.2.2.2.2.2.1);have HS7_:=zh_ hb (hHeld.2.2.2.2.2.2.2.1);have HS8_:=zh_ hb (hHeld.2.2.2.2.2.2.2.2.1);have HS9_:=zh_ hb (hHeld.2.2.2.2.2.2.2.2.2.1);have HS10_:=zh_ hb (hHeld.2.2.2.2.2.2.2.2.2.2.1);have HS11_:=zh_ hb (hHeld.2.2.2.2.2.2.2.2.2.2.2.1);have HS12_:=zh_ hb (hHeld.2.2.2.2.2.2.2.2.2.2.2.2.1);have HS13_:=zh_ hb (hHeld.2.2.2.2.2.2.2.2.2.2.2.2.2.1);have HS14_:=zh_ hb (hHeld.2.2.2.2.2.2.2.2.2.2.2.2.2.2);refine ⟨_,rfl, ?_⟩;replace HO15:=ob_ HO15 hb;replace BK1:=bb_ BK1 hb;replace BK2:=bb_ BK2 hb;replace HB:=am_ (below_step (zl2_ HB GE1 GE2) hb);(try clear hb);refine hK.out _ _ ⟨(blk_cell BK1.out 0).trans rfl,(blk_cell BK1.out 1).trans rfl,(blk_cell BK1.out 2).trans rfl,HS3_,HS4_,HS5_,HS6_,HS7_,HS8_,HS9_,HS10_,HS11_,HS12_,HS13_,HS14_⟩ (fun hHeld=> ?_);clear hK K;refine no_ (N:=some 44) ?_;(iterate 2 refine qu_ HT_ ?_);refine done_ (done_of HT_.out (by kernel_rfl)) ?_
  try go_wp2_with (first|((with_reducible refine gate_callee (f:=101) rfl ?_);refine gl_ (some 46) Try.func101 #[.int .i64 12] ?_;(with_reducible refine (r10_no.calls 12 t27 t30 _ A44.out).mono ?_);rintro e w54 ⟨v28,rfl,ho0,hb⟩;refine ⟨_,rfl, ?_⟩;have HO29:=am_ (Kd.R_lower (Kd.R_new' ho0 (Kd.R_lt (zr_ HO15))) (below_size (zl2_ HB GE1 GE2)));replace HO15:=am_ (Kd.R_elder' (zr_ HO15) (Kd.R_base ho0) hb);replace BK1:=bb_ BK1 hb;replace BK2:=bb_ BK2 hb;replace HB:=am_ (below_step (zl2_ HB GE1 GE2) hb);(try clear hb ho0);obtain ⟨Ao55,co55,eo55⟩:=Kd.R_slice HO29.out;subst eo55;obtain ⟨hcz56_0,hcz56_1⟩:=x2_ BK2;have hfz56_0:=blk_frozen BK2.out 0;have hfz56_1:=blk_frozen BK2.out 1))
  refine bodyPost_ret (results_cell_row rfl _ _ gb2 73 #[.slice Ao55 t27.length co55, .int .i64 t30] (0,0) _ rfl (zw_ BK2) Try.underlying73 rfl (by kernel_rfl)) rfl ?_;exact ⟨_,by first|rfl|(simp [errW_none,errW_some]<;>rfl)|(simp [*,errW_none,errW_some]<;>rfl),zy_ HO29 BK2,zl2_ HB GE1 GE2⟩
 subst c26;rw [if_pos rfl] at H;obtain ⟨y24,hy24⟩: ∃y_:List (S79),y_=(t13.set (t16:Int).toNat (⟨(rd_T79 t13 t16).f0,(rd_T79 t13 t16).f1,(⟨a2_0,a2_1,a2_2⟩:S37),(⟨(rd_T79 t13 t16).f3.f0,(rd_T79 t13 t16).f3.f1,(rd_T79 t13 t16).f3.f2⟩:S37),(⟨(rd_T79 t13 t16).f4.f0,(rd_T79 t13 t16).f4.f1,(rd_T79 t13 t16).f4.f2⟩:S37),(rd_T79 t13 t16).f5⟩:S79)):=⟨_,rfl⟩;(first|replace H:=zsb_ hy24 H|rw [←hy24] at H);have Ny24:=Aside0.mk hy24;clear hy24;obtain ⟨y26,hy26⟩: ∃y_:List (S79),y_=(y24.set (t16:Int).toNat (⟨(rd_T79 y24 t16).f0,(rd_T79 y24 t16).f1,(⟨(rd_T79 y24 t16).f2.f0,(rd_T79 y24 t16).f2.f1,(rd_T79 y24 t16).f2.f2⟩:S37),(⟨(rd_T79 y24 t16).f3.f0,(rd_T79 y24 t16).f3.f1,(rd_T79 y24 t16).f3.f2⟩:S37),(⟨(rd_T79 y24 t16).f4.f0,(rd_T79 y24 t16).f4.f1,(rd_T79 y24 t16).f4.f2⟩:S37),wrap64 (((rd_T79 y24 t16).f5)+1)⟩:S79)):=⟨_,rfl⟩;(first|replace H:=zsb_ hy26 H|rw [←hy26] at H);have Ny26:=Aside0.mk hy26;clear hy26;simp only [Option.some.injEq,Prod.mk.injEq] at H;obtain ⟨rfl,rfl⟩:=H;go_enter Try.func98,Try.ntmps98
 try go_wp2_with (first|((with_reducible refine gate_dst (N:=6) rfl ?_);refine bx_ (N:=6) (cs:=#[.int .i64 a2_0, .int .i64 a2_1, .int .i64 a2_2]) (t:=37) ?_;intro gb1 hg w29 hbox hb;have BK1:=am_ (hbox);have GE1:=am_ ((zg0_ HB hg:w.heap.size≤gb1));replace HB:=am_ (below_step (zl0_ HB) hb);clear hb hbox hg)|((with_reducible refine gate_dst (N:=8) rfl ?_);refine bx_ (N:=8) (cs:=#[.slice none 0 0, .int .i64 0]) (t:=73) ?_;intro gb2 hg w30 hbox hb;have BK2:=am_ (hbox);have GE2:=am_ ((zg1_ HB GE1 hg:w.heap.size≤gb2));replace HB:=am_ (below_step (zl1_ HB GE1) hb);have NB1_2:=am_ ((zn_ BK1 hg:gb1≠gb2));have NB2_1:=am_ ((zm_ BK1 hg:gb2≠gb1));replace BK1:=bb_ BK1 hb;clear hb hbox hg;have hnb31:=NB1_2.out;have hnc31:=NB2_1.out;obtain ⟨hcz32_0,hcz32_1,hcz32_2⟩:=x3_ BK1;have hfz32_0:=blk_frozen BK1.out 0;have hfz32_1:=blk_frozen BK1.out 1;have hfz32_2:=blk_frozen BK1.out 2)|((with_reducible refine gate_callee (f:=68) rfl ?_);refine gl_ (some 13) Try.func68 #[.agg #[.int .i64 a2_0, .int .i64 a2_1, .int .i64 a2_2]] ?_;(with_reducible refine (r10_MayVec.calls a2_0 a2_1 a2_2 true _ A5.out).mono ?_);rintro e w33 ⟨rfl,hb⟩;refine ⟨_,rfl, ?_⟩;replace BK1:=bb_ BK1 hb;replace BK2:=bb_ BK2 hb;replace HB:=am_ (below_step (zl2_ HB GE1 GE2) hb);(try clear hb))|((with_reducible refine gate_callee (f:=133) rfl ?_);refine gl_ (some 19) Try.func133 #[.slice A0 l0.length c0, .string a1, .int .i64 a3] ?_;(with_reducible refine (r10_old.calls k _ _ l0 a1 a3 t8 _ ?side1 ?side2 A7.out).mono ?_);(case side1=>exact zc_ (Kd.C_below HR0.out HB.out));(case side2=>exact HC0.out);rintro e w' ⟨rfl,⟨nd,rfl⟩⟩;refine ⟨_,rfl, ?_⟩;(try (rw [drewN_self w33];generalize hq_:World.drewN w33 _=w33;replace BK1:=am_ (blk_at hq_ BK1.out);replace BK2:=am_ (blk_at hq_ BK2.out);replace HB:=am_ (below_at hq_ HB.out);clear hq_)))|((with_reducible refine gate_callee (f:=119) rfl ?_);refine gl_ (some 25) Try.func119 #[.slice A0 l0.length c0] ?_;(with_reducible refine (r10_copied.calls _ _ l0 t13 _ ?side1 ?side2 A9.out).mono ?_);(case side1=>exact zc_ (Kd.C_below HR0.out HB.out));(case side2=>exact HC0.out);rintro e w34 ⟨v14,rfl,ho0,hb⟩;refine ⟨_,rfl, ?_⟩;have HO15:=am_ (Kd.R_lower ho0 (below_size (zl2_ HB GE1 GE2)));replace BK1:=bb_ BK1 hb;replace BK2:=bb_ BK2 hb;replace HB:=am_ (below_step (zl2_ HB GE1 GE2) hb);(try clear hb ho0);obtain ⟨Ao35,co35,eo35⟩:=Kd.R_slice HO15.out;subst eo35)|((with_reducible refine gate_callee (f:=52) rfl ?_);refine gl_ (some 28) Try.func52 #[.slice Ao35 t13.length co35, .string a1] ?_;(with_reducible refine (r10_Find.calls k _ _ t13 a1 t16 _ ?side1 ?side2 A10.out).mono ?_);(case side1=>exact zc_ (Kd.R_reads' HO15.out).2.2);(case side2=>exact (Kd.R_reads' HO15.out).2.1);rintro e w' ⟨rfl,⟨nd,rfl⟩⟩;refine ⟨_,rfl, ?_⟩;(try (rw [drewN_self w34];generalize hq_:World.drewN w34 _=w34;replace HO15:=am_ (Kd.R_at hq_ HO15.out);replace BK1:=am_ (blk_at hq_ BK1.out);replace BK2:=am_ (blk_at hq_ BK2.out);replace HB:=am_ (below_at hq_ HB.out);clear hq_));have p17:0≤(t16:Int):=of_decide_eq_true zq_;have q17:t16<(t13.length:Int):=of_decide_eq_true zq_;obtain ⟨ad17,e17,hx17_0,hx17_1,hx17_2,hx17_3,hx17_4,hx17_5,hx17_6,hx17_7,hx17_8,hx17_9,hx17_10,hx17_11⟩:=at_T79 (Kd.R_reads' HO15.out).2.2 t16 p17 q17;cases e17;replace p17:=eq_true p17;replace q17:=eq_true q17))
 replace HO15:=am_ (Kd.R_drew HO15.out);replace BK1:=am_ (blk_drew BK1.out);replace BK2:=am_ (blk_drew BK2.out);replace HB:=am_ (below_drew1 HB.out);obtain ⟨p22,q22,ad22,e22,hx22_0,hx22_1,hx22_2,hx22_3,hx22_4,hx22_5,hx22_6,hx22_7,hx22_8,hx22_9,hx22_10,hx22_11⟩:=zat_ (at_T79 (Kd.R_reads' HO15.out).2.2 t16);obtain rfl:ad17=ad22:=(by injection e22)
 refine start_ (n:=9) (S:=fun w'=>w'.cell? ⟨gb1,0,none⟩=some (.int .i64 a2_0)∧w'.cell? ⟨gb1,1,none⟩=some (.int .i64 a2_1)∧w'.cell? ⟨gb1,2,none⟩=some (.int .i64 a2_2)∧w'.cell? (ad17.add ((t16).toNat*12))=some (.string ((rd_T79 t13 t16).f0))∧w'.cell? ⟨(ad17.add ((t16).toNat*12)).block,(ad17.add ((t16).toNat*12)).off+1,none⟩=some (.string ((rd_T79 t13 t16).f1))∧w'.cell? ⟨(ad17.add ((t16).toNat*12)).block,(ad17.add ((t16).toNat*12)).off+2,none⟩=some (.int .i64 ((rd_T79 t13 t16).f2.f0))∧w'.cell? ⟨(ad17.add ((t16).toNat*12)).block,(ad17.add ((t16).toNat*12)).off+3,none⟩=some (.int .i64 ((rd_T79 t13 t16).f2.f1))∧w'.cell? ⟨(ad17.add ((t16).toNat*12)).block,(ad17.add ((t16).toNat*12)).off+4,none⟩=some (.int .i64 ((rd_T79 t13 t16).f2.f2))∧w'.cell? ⟨(ad17.add ((t16).toNat*12)).block,(ad17.add ((t16).toNat*12)).off+5,none⟩=some (.int .i64 ((rd_T79 t13 t16).f3.f0))∧w'.cell? ⟨(ad17.add ((t16).toNat*12)).block,(ad17.add ((t16).toNat*12)).off+6,none⟩=some (.int .i64 ((rd_T79 t13 t16).f3.f1))∧w'.cell? ⟨(ad17.add ((t16).toNat*12)).block,(ad17.add ((t16).toNat*12)).off+7,none⟩=some (.int .i64 ((rd_T79 t13 t16).f3.f2))∧w'.cell? ⟨(ad17.add ((t16).toNat*12)).block,(ad17.add ((t16).toNat*12)).off+8,none⟩=some (.int .i64 ((rd_T79 t13 t16).f4.f0))∧w'.cell? ⟨(ad17.add ((t16).toNat*12)).block,(ad17.add ((t16).toNat*12)).off+9,none⟩=some (.int .i64 ((rd_T79 t13 t16).f4.f1))∧w'.cell? ⟨(ad17.add ((t16).toNat*12)).block,(ad17.add ((t16).toNat*12)).off+10,none⟩=some (.int .i64 ((rd_T79 t13 t16).f4.f2))∧w'.cell? ⟨(ad17.add ((t16).toNat*12)).block,(ad17.add ((t16).toNat*12)).off+11,none⟩=some (.int .i64 ((rd_T79 t13 t16).f5))) (ds:=[]) (bs_ 9 0) (by kernel_rfl) rfl rfl ⟨(blk_cell BK1.out 0).trans rfl,(blk_cell BK1.out 1).trans rfl,(blk_cell BK1.out 2).trans rfl,hx22_0,hx22_1,hx22_2,hx22_3,hx22_4,hx22_5,hx22_6,hx22_7,hx22_8,hx22_9,hx22_10,hx22_11⟩ (fun hHeld=> ?_);refine with_tabW r10_Limit.tab10 r10_Limit.bits10 (fun HT_ HW_=> ?_)
 generalize w34.drew=w36 at HO15 BK1 BK2 HB hx22_0 hx22_1 hx22_10 hx22_11 hx22_2 hx22_3 hx22_4 hx22_5 hx22_6 hx22_7 hx22_8 hx22_9 hHeld ⊢;(iterate 4 refine qu_ HT_ ?_);(iterate 2 refine qk_ HT_ HW_ hHeld ?_);refine on_ (i:=6) (N:=some 44) (bs_ 9 7) HT_ (fun K hK=> ?_);refine gs_ Try.func71 #[.agg #[.int .i64 ((rd_T79 t13 t16).f4.f0), .int .i64 ((rd_T79 t13 t16).f4.f1), .int .i64 ((rd_T79 t13 t16).f4.f2)], .agg #[.int .i64 a2_0, .int .i64 a2_1, .int .i64 a2_2]] ?_
 with_reducible refine (r10_Le.calls ((rd_T79 t13 t16).f4.f0) ((rd_T79 t13 t16).f4.f1) ((rd_T79 t13 t16).f4.f2) a2_0 a2_1 a2_2 true _ A25.out).mono ?_
 rintro e w37 ⟨rfl,hb⟩;have HS3_:=zh_ hb (hHeld.2.2.2.1);have HS4_:=zh_ hb (hHeld.2.2.2.2.1);have HS5_:=zh_ hb (hHeld.2.2.2.2.2.1);have HS6_:=zh_ hb (hHeld.2.2.2.2.2.2.1);have HS7_:=zh_ hb (hHeld.2.2.2.2.2.2.2.1);have HS8_:=zh_ hb (hHeld.2.2.2.2.2.2.2.2.1);have HS9_:=zh_ hb (hHeld.2.2.2.2.2.2.2.2.2.1);have HS10_:=zh_ hb (hHeld.2.2.2.2.2.2.2.2.2.2.1);have HS11_:=zh_ hb (hHeld.2.2.2.2.2.2.2.2.2.2.2.1);have HS12_:=zh_ hb (hHeld.2.2.2.2.2.2.2.2.2.2.2.2.1);have HS13_:=zh_ hb (hHeld.2.2.2.2.2.2.2.2.2.2.2.2.2.1);have HS14_:=zh_ hb (hHeld.2.2.2.2.2.2.2.2.2.2.2.2.2.2);refine ⟨_,rfl, ?_⟩;replace HO15:=ob_ HO15 hb;replace BK1:=bb_ BK1 hb;replace BK2:=bb_ BK2 hb;replace HB:=am_ (below_step (zl2_ HB GE1 GE2) hb);(try clear hb);refine hK.out _ _ ⟨(blk_cell BK1.out 0).trans rfl,(blk_cell BK1.out 1).trans rfl,(blk_cell BK1.out 2).trans rfl,HS3_,HS4_,HS5_,HS6_,HS7_,HS8_,HS9_,HS10_,HS11_,HS12_,HS13_,HS14_⟩ (fun hHeld=> ?_);clear hK K;refine no_ (N:=some 44) ?_;(iterate 2 refine qu_ HT_ ?_);refine done_ (done_of HT_.out (by kernel_rfl)) ?_;obtain ⟨hcz38_0,hcz38_1,hcz38_2,hfz38_0,hfz38_1,hfz38_2⟩:=y3_ BK1;have p27:0≤(t16:Int):=of_decide_eq_true zq_;have q27:(t16:Int)<((t13.length:Int):Int):=of_decide_eq_true zq_;obtain ⟨go27,co27,eo27,gb27,gl27,cl27,HG27⟩:=Kd.R_form HO15.out (by omega);(first|cases eo27|(injection eo27 with ea_ en_ ec_;(first|subst ea_|(injection ea_ with ea_;subst ea_));subst ec_;clear en_));have GB27:=Aside0.mk gb27;have GG27:=Aside0.mk HG27;clear gb27 gl27 HG27
 replace hx17_0:=zv_ hx17_0;replace hx17_1:=zv_ hx17_1;replace hx17_2:=zv_ hx17_2;replace hx17_3:=zv_ hx17_3;replace hx17_4:=zv_ hx17_4;replace hx17_5:=zv_ hx17_5;replace hx17_6:=zv_ hx17_6;replace hx17_7:=zv_ hx17_7;replace hx17_8:=zv_ hx17_8;replace hx17_9:=zv_ hx17_9;replace hx17_10:=zv_ hx17_10;replace hx17_11:=zv_ hx17_11;replace hx22_0:=zv_ hx22_0;replace hx22_1:=zv_ hx22_1;replace hx22_2:=zv_ hx22_2;replace hx22_3:=zv_ hx22_3;replace hx22_4:=zv_ hx22_4;replace hx22_5:=zv_ hx22_5;replace hx22_6:=zv_ hx22_6;replace hx22_7:=zv_ hx22_7;replace hx22_8:=zv_ hx22_8;replace hx22_9:=zv_ hx22_9;replace hx22_10:=zv_ hx22_10;replace hx22_11:=zv_ hx22_11;obtain ⟨ce27,hcl27,hM27,hcc27,hfr27⟩:=Kd.R_elem HO15.out z79 (t16:Int) p27 q27;obtain rfl:=k79_openM hM27;obtain ⟨hx27_0,hx27_1,hx27_2,hx27_3,hx27_4,hx27_5,hx27_6,hx27_7,hx27_8,hx27_9,hx27_10,hx27_11⟩:=rc12_ (m:=(t16:Int).toNat*12) hcc27;obtain ⟨hf27_0,hf27_1,hf27_2,hf27_3,hf27_4,hf27_5,hf27_6,hf27_7,hf27_8,hf27_9,hf27_10,hf27_11⟩:=rg12_ (m:=(t16:Int).toNat*12) hfr27;clear hcl27 hcc27 hfr27 hM27;replace p27:=eq_true p27;replace q27:=eq_true q27;have HX39:=am_ (show Kd.R k79 79 w37 w.heap.size (fun _=>True) (.slice (some ⟨go27,0,none⟩) t13.length co35) t13 from (zr_ HO15));obtain ⟨ce39,hcl39,hM39,hcc39,hfr39⟩:=Kd.R_elem HX39.out z79 (t16:Int) (of_decide_eq_true zq_) (by have h_:(t16:Int)<((t13.length:Int):Int):=of_decide_eq_true zq_;first|exact h_|(have e_:=(Kd.R_reads' HO15.out).1;omega)|simpa using h_);obtain rfl:=k79_openM hM39
 have HP39:=Kd.R_seg HX39.out (t16:Int) (of_decide_eq_true zq_) (by have h_:(t16:Int)<((t13.length:Int):Int):=of_decide_eq_true zq_;first|exact h_|(have e_:=(Kd.R_reads' HO15.out).1;omega)|simpa using h_) (seg:=[.int .i64 a2_0, .int .i64 a2_1, .int .i64 a2_2]) (j:=2) hcl39 hcc39 (show 5≤12 from by decide) (x':=(⟨(rd_T79 t13 t16).f0,(rd_T79 t13 t16).f1,(⟨a2_0,a2_1,a2_2⟩:S37),(⟨(rd_T79 t13 t16).f3.f0,(rd_T79 t13 t16).f3.f1,(rd_T79 t13 t16).f3.f2⟩:S37),(⟨(rd_T79 t13 t16).f4.f0,(rd_T79 t13 t16).f4.f1,(rd_T79 t13 t16).f4.f2⟩:S37),(rd_T79 t13 t16).f5⟩:S79)) (k79_mkM _ _ _ (⟨(rd_T79 t13 t16).f0,(rd_T79 t13 t16).f1,(⟨a2_0,a2_1,a2_2⟩:S37),(⟨(rd_T79 t13 t16).f3.f0,(rd_T79 t13 t16).f3.f1,(rd_T79 t13 t16).f3.f2⟩:S37),(⟨(rd_T79 t13 t16).f4.f0,(rd_T79 t13 t16).f4.f1,(rd_T79 t13 t16).f4.f2⟩:S37),(rd_T79 t13 t16).f5⟩:S79)) (fun _ hk=>hk);have hx39_2:=hcc39 2 _ rfl;(try simp only [show (k79).sz=12 from rfl,Nat.mul_one,Nat.add_zero] at hx39_2);have hf39_2:=hfr39 2;(try simp only [show (k79).sz=12 from rfl,Nat.mul_one,Nat.add_zero] at hf39_2);have hx39_3:=hcc39 3 _ rfl;(try simp only [show (k79).sz=12 from rfl,Nat.mul_one,Nat.add_zero] at hx39_3);have hf39_3:=hfr39 3;(try simp only [show (k79).sz=12 from rfl,Nat.mul_one,Nat.add_zero] at hf39_3);have hx39_4:=hcc39 4 _ rfl;(try simp only [show (k79).sz=12 from rfl,Nat.mul_one,Nat.add_zero] at hx39_4);have hf39_4:=hfr39 4;(try simp only [show (k79).sz=12 from rfl,Nat.mul_one,Nat.add_zero] at hf39_4);clear hcl39 hcc39 hfr39 hM39
 try go_wp2_with (first|((with_reducible refine gate_store (t:=37) (p:=51) rfl ?_);refine store_event (t:=37) (p:=51) (v:= ?vo_w40) (w1:=(((w37.setCell ⟨go27,(t16:Int).toNat*12+2,none⟩ (.int .i64 a2_0)).setCell ⟨go27,(t16:Int).toNat*12+3,none⟩ (.int .i64 a2_1)).setCell ⟨go27,(t16:Int).toNat*12+4,none⟩ (.int .i64 a2_2))) ?hg ?ho ?hn ?hr ?_;(case ho=>rfl);(case hg=>rfl);(case hn=>rfl);(case hr=>first|(go_simp;done)|(go_simp;rfl));intro w40 hw;have hg:w37.grownBy w40 (some go27):=(by rw [hw];exact HP39.2);have hp_:Kd.R k79 79 w40 w.heap.size (fun _=>True) (.slice (some ⟨go27,0,none⟩) t13.length co35) y24:=(by rw [hw,Ny24.out];exact HP39.1);clear HP39;replace BK1:=am_ (blk_grown (zb_ BK1) hg (Kd.R_ne HO15.out BK1.out (by decide)));replace BK2:=am_ (blk_grown (zb_ BK2) hg (Kd.R_ne HO15.out BK2.out (by decide)));replace HO15:=am_ (hp_);replace HB:=am_ ((by rw [hw];exact below_set (below_set (below_set (HB.out) GB27.out) GB27.out) GB27.out:Below w.heap.size w w40));clear hg hw hp_;have p25:0≤(t16:Int):=of_decide_eq_true zq_;have q25:t16<(y24.length:Int):=(by have h_:(t16:Int)<((t13.length:Int):Int):=of_decide_eq_true zq_;first|(have e_:=(Kd.R_reads' HO15.out).1;omega)|simpa only [Ny24.out,List.length_set] using h_);have ql25:((t16:Int)<((t13.length:Int):Int))=True:=eq_true (of_decide_eq_true zq_);obtain ⟨ad25,e25,hx25_0,hx25_1,hx25_2,hx25_3,hx25_4,hx25_5,hx25_6,hx25_7,hx25_8,hx25_9,hx25_10,hx25_11⟩:=at_T79 (Kd.R_reads' HO15.out).2.2 t16 p25 q25;obtain rfl:(⟨go27,0,none⟩:Addr)=ad25:=(by injection e25);replace hx25_0:=za_ hx25_0;replace hx25_1:=za_ hx25_1;replace hx25_2:=za_ hx25_2;replace hx25_3:=za_ hx25_3;replace hx25_4:=za_ hx25_4;replace hx25_5:=za_ hx25_5;replace hx25_6:=za_ hx25_6;replace hx25_7:=za_ hx25_7;replace hx25_8:=za_ hx25_8;replace hx25_9:=za_ hx25_9;replace hx25_10:=za_ hx25_10;replace hx25_11:=za_ hx25_11;replace p25:=eq_true p25;replace q25:=eq_true q25;have p28:0≤(t16:Int):=of_decide_eq_true zq_;have q28:(t16:Int)<((t13.length:Int):Int):=of_decide_eq_true zq_;obtain ⟨ce28,hcl28,hM28,hcc28,hfr28⟩:=Kd.R_elem HO15.out z79 (t16:Int) p28 q28;obtain rfl:=k79_openM hM28;obtain ⟨hx28_0,hx28_1,hx28_2,hx28_3,hx28_4,hx28_5,hx28_6,hx28_7,hx28_8,hx28_9,hx28_10,hx28_11⟩:=rc12_ (m:=(t16:Int).toNat*12) hcc28;obtain ⟨hf28_0,hf28_1,hf28_2,hf28_3,hf28_4,hf28_5,hf28_6,hf28_7,hf28_8,hf28_9,hf28_10,hf28_11⟩:=rg12_ (m:=(t16:Int).toNat*12) hfr28;clear hcl28 hcc28 hfr28 hM28;replace p28:=eq_true p28;replace q28:=eq_true q28;have HX41:=am_ (show Kd.R k79 79 w40 w.heap.size (fun _=>True) (.slice (some ⟨go27,0,none⟩) t13.length co35) y24 from (zr_ HO15));obtain ⟨ce41,hcl41,hM41,hcc41,hfr41⟩:=Kd.R_elem HX41.out z79 (t16:Int) (of_decide_eq_true zq_) (by have h_:(t16:Int)<((t13.length:Int):Int):=of_decide_eq_true zq_;first|exact h_|(have e_:=(Kd.R_reads' HO15.out).1;omega)|simpa using h_);obtain rfl:=k79_openM hM41;have HP41:=Kd.R_seg HX41.out (t16:Int) (of_decide_eq_true zq_) (by have h_:(t16:Int)<((t13.length:Int):Int):=of_decide_eq_true zq_;first|exact h_|(have e_:=(Kd.R_reads' HO15.out).1;omega)|simpa using h_) (seg:=[.int .i64 (wrap64 (((rd_T79 y24 t16).f5)+1))]) (j:=11) hcl41 hcc41 (show 12≤12 from by decide) (x':=(⟨(rd_T79 y24 t16).f0,(rd_T79 y24 t16).f1,(⟨(rd_T79 y24 t16).f2.f0,(rd_T79 y24 t16).f2.f1,(rd_T79 y24 t16).f2.f2⟩:S37),(⟨(rd_T79 y24 t16).f3.f0,(rd_T79 y24 t16).f3.f1,(rd_T79 y24 t16).f3.f2⟩:S37),(⟨(rd_T79 y24 t16).f4.f0,(rd_T79 y24 t16).f4.f1,(rd_T79 y24 t16).f4.f2⟩:S37),wrap64 (((rd_T79 y24 t16).f5)+1)⟩:S79)) (k79_mkM _ _ _ (⟨(rd_T79 y24 t16).f0,(rd_T79 y24 t16).f1,(⟨(rd_T79 y24 t16).f2.f0,(rd_T79 y24 t16).f2.f1,(rd_T79 y24 t16).f2.f2⟩:S37),(⟨(rd_T79 y24 t16).f3.f0,(rd_T79 y24 t16).f3.f1,(rd_T79 y24 t16).f3.f2⟩:S37),(⟨(rd_T79 y24 t16).f4.f0,(rd_T79 y24 t16).f4.f1,(rd_T79 y24 t16).f4.f2⟩:S37),wrap64 (((rd_T79 y24 t16).f5)+1)⟩:S79)) (fun _ hk=>hk);have hx41_11:=hcc41 11 _ rfl;(try simp only [show (k79).sz=12 from rfl,Nat.mul_one,Nat.add_zero] at hx41_11);have hf41_11:=hfr41 11;(try simp only [show (k79).sz=12 from rfl,Nat.mul_one,Nat.add_zero] at hf41_11);clear hcl41 hcc41 hfr41 hM41)|((with_reducible refine gate_store (t:=3) (p:=59) rfl ?_);refine store_event (t:=3) (p:=59) (v:= ?vo_w42) (w1:=(w40.setCell ⟨go27,(t16:Int).toNat*12+11,none⟩ (.int .i64 (wrap64 (((rd_T79 y24 t16).f5)+1))))) ?hg ?ho ?hn ?hr ?_;(case ho=>rfl);(case hg=>rfl);(case hn=>rfl);(case hr=>first|(go_simp;done)|(go_simp;rfl));intro w42 hw;have hg:w40.grownBy w42 (some go27):=(by rw [hw];exact HP41.2);have hp_:Kd.R k79 79 w42 w.heap.size (fun _=>True) (.slice (some ⟨go27,0,none⟩) t13.length co35) y26:=(by rw [hw,Ny26.out];exact HP41.1);clear HP41;replace BK1:=am_ (blk_grown (zb_ BK1) hg (Kd.R_ne HO15.out BK1.out (by decide)));replace BK2:=am_ (blk_grown (zb_ BK2) hg (Kd.R_ne HO15.out BK2.out (by decide)));replace HO15:=am_ (hp_);replace HB:=am_ ((by rw [hw];exact below_set (HB.out) GB27.out:Below w.heap.size w w42));clear hg hw hp_;obtain ⟨hcz43_0,hcz43_1⟩:=x2_ BK2;have hfz43_0:=blk_frozen BK2.out 0;have hfz43_1:=blk_frozen BK2.out 1))
 refine bodyPost_ret (results_cell_row rfl _ _ gb2 73 #[.slice (some ⟨go27,0,none⟩) t13.length co35, .int .i64 0] (0,0) _ rfl (zw_ BK2) Try.underlying73 rfl (by kernel_rfl)) rfl ?_;exact ⟨_,by first|rfl|(simp [errW_none,errW_some]<;>rfl)|(simp [*,errW_none,errW_some]<;>rfl),zy_ HO15 BK2,zl2_ HB GE1 GE2⟩
def r10_in.l0:Nat→List ByteArray→ByteArray→Int→Option (Bool)
 |0,_,_,_=>none
 |k+1,x0,x1,x5=>if x5<(x0.length:Int) then (if 0≤x5 then (if (rdOf ByteArray.empty x0 x5).toList=x1.toList then (some true) else (r10_in.l0 k x0 x1 (wrap64 (x5+1)))) else (none)) else (some false)
def r10_in.f (k:Nat) (l0:List ByteArray) (a1:ByteArray):Option (Bool):=r10_in.l0 k l0 a1 0
theorem r10_in.mono_l: ∀k,(∀y0 y1 y2,LeO (r10_in.l0 k y0 y1 y2) (r10_in.l0 (k+1) y0 y1 y2))
 |0=>fun _ _ _ r h=>by simp [r10_in.l0] at h
 |k+1=>by
  have ih0:=r10_in.mono_l k;intro y0 y1 y2;unfold r10_in.l0
  repeat' with_reducible first|apply ih0|apply LeO.refl|apply LeO.none|apply LeO.ite|refine LeO.bind ?_ fun _=> ?_
theorem r10_in.mono: ∀a0 a1 k,LeO (r10_in.f k a0 a1) (r10_in.f (k+1) a0 a1):=by
 intro a0 a1 k;have ih0:=r10_in.mono_l k;unfold r10_in.f
 repeat' with_reducible first|apply ih0|apply LeO.refl|apply LeO.none|apply LeO.ite|refine LeO.bind ?_ fun _=> ?_
set_option maxHeartbeats 8000000 in
set_option maxRecDepth 100000 in
theorem r10_in.calls (k:Nat) (A0:Option Addr) (c0:Nat) (l0:List ByteArray) (a1:ByteArray) (r:Bool) (w:World) (hr0:Kd.C Kd.string w A0 l0.length l0) (hc0:l0.length≤c0) (h:r10_in.f k l0 a1=some r):
  Calls Try.prog 134 #[.slice A0 l0.length c0, .string a1] w fun e w'=>e= .returned (.bool r)∧Drawn0 w w':=by
 have HR0:=Aside0.mk hr0;have HC0:=Aside0.mk hc0;clear hr0 hc0;have H:(r10_in.l0 k l0 a1 0)=some r:=h;clear h;have H':=Aside0.mk H;clear H;go_enter Try.func134,Try.ntmps134;go_wp2
 go_loopg [5] k (fun kq v5 w'=> ∃(x5_1:Int),v5= .int .i64 x5_1∧Aside0 (r10_in.l0 kq l0 a1 x5_1=some r)∧Aside0 (kq≤k)∧Drawn0 w w')
 case atStart=>exact ⟨(0),rf_,H',⟨Nat.le_refl _⟩,by repeat (first|exact Drawn0.refl _|apply Drawn0.step)⟩
 case round=>
  clear H';obtain ⟨x5_1,rfl,HA,HK1,⟨m1,rfl⟩⟩:=hrel
  cases gk with
  |zero=>exact absurd HA.out (by simp [r10_in.l0])
  |succ k1=>
   have H:=HA.out;clear HA;simp only [r10_in.l0] at H;by_cases c3:x5_1<(l0.length:Int);rotate_left
   ·rw [if_neg c3] at H;have c3b0:=decide_eq_false c3;clear c3;obtain rfl:=Option.some.inj H;go_wp2
    go_ret
    exact ⟨by first|rfl|(simp;done)|(simp [*];done),by repeat (first|exact Drawn0.refl _|apply Drawn0.step)⟩

   rw [if_pos c3] at H;have c3b0:=decide_eq_true c3;clear c3;replace H:=zif_ H;obtain ⟨c4,H⟩:=H;have c4b0:=decide_eq_true c4;clear c4;by_cases c5:(rdOf ByteArray.empty l0 x5_1).toList=a1.toList
   ·rw [if_pos c5] at H;have c5b0:=beq_iff_eq.mpr c5;have c5b1:=bne_eq_false_iff_eq.mpr c5;clear c5;obtain rfl:=Option.some.inj H;obtain ⟨p1,q1,ad1,e1,hx1_0⟩:=zat_ (Kd.at_string HR0.out x5_1);cases e1;go_wp2
    go_ret
    exact ⟨by first|rfl|(simp;done)|(simp [*];done),by repeat (first|exact Drawn0.refl _|apply Drawn0.step)⟩
   rw [if_neg c5] at H;have c5b0:=beq_eq_false_iff_ne.mpr c5;have c5b1:=bne_iff_ne.mpr c5;have H':=Aside0.mk H;clear H;obtain ⟨p1,q1,ad1,e1,hx1_0⟩:=zat_ (Kd.at_string HR0.out x5_1);cases e1;go_wp2
   go_roundg k1
   case measure=>have:=HK1.out;omega
   case rel=>exact ⟨(wrap64 (x5_1+1)),rf_,H',⟨by have:=HK1.out;omega⟩,by repeat (first|exact Drawn0.refl _|apply Drawn0.step)⟩
def r10_Sub.f (a0_0:Int) (a0_1:Int) (a0_2:Int) (a1_0:Int) (a1_1:Int) (a1_2:Int):Option (Int×Int×Int):=some (wrap64 (a0_0 - a1_0),wrap64 (a0_1 - a1_1),wrap64 (a0_2 - a1_2))
set_option maxHeartbeats 8000000 in
set_option maxRecDepth 100000 in
theorem r10_Sub.calls (a0_0:Int) (a0_1:Int) (a0_2:Int) (a1_0:Int) (a1_1:Int) (a1_2:Int) (r1:Int) (r2:Int) (r3:Int) (w:World) (h:r10_Sub.f a0_0 a0_1 a0_2 a1_0 a1_1 a1_2=some (r1,r2,r3)):
  Calls Try.prog 135 #[.agg #[.int .i64 a0_0, .int .i64 a0_1, .int .i64 a0_2], .agg #[.int .i64 a1_0, .int .i64 a1_1, .int .i64 a1_2]] w fun e w'=>e= .returned (.agg #[.int .i64 r1, .int .i64 r2, .int .i64 r3])∧Below w.heap.size w w':=by
 have hu37:=Try.underlying37;have HB:=am_ (Below.refl w.heap.size w);have H:(some (wrap64 (a0_0 - a1_0),wrap64 (a0_1 - a1_1),wrap64 (a0_2 - a1_2)))=some (r1,r2,r3):=h;clear h;simp only [Option.some.injEq,Prod.mk.injEq] at H;obtain ⟨rfl,rfl,rfl⟩:=H;go_enter Try.func135,Try.ntmps135
 go_wp2_with (first|((with_reducible refine gate_dst (N:=2) rfl ?_);refine bx_ (N:=2) (cs:=#[.int .i64 a0_0, .int .i64 a0_1, .int .i64 a0_2]) (t:=37) ?_;intro gb1 hg w3 hbox hb;have BK1:=am_ (hbox);have GE1:=am_ ((zg0_ HB hg:w.heap.size≤gb1));replace HB:=am_ (below_step (zl0_ HB) hb);clear hb hbox hg)|((with_reducible refine gate_dst (N:=3) rfl ?_);refine bx_ (N:=3) (cs:=#[.int .i64 a1_0, .int .i64 a1_1, .int .i64 a1_2]) (t:=37) ?_;intro gb2 hg w4 hbox hb;have BK2:=am_ (hbox);have GE2:=am_ ((zg1_ HB GE1 hg:w.heap.size≤gb2));replace HB:=am_ (below_step (zl1_ HB GE1) hb);have NB1_2:=am_ ((zn_ BK1 hg:gb1≠gb2));have NB2_1:=am_ ((zm_ BK1 hg:gb2≠gb1));replace BK1:=bb_ BK1 hb;clear hb hbox hg)|((with_reducible refine gate_dst (N:=4) rfl ?_);refine bx_ (N:=4) (cs:=#[.int .i64 0, .int .i64 0, .int .i64 0]) (t:=37) ?_;intro gb3 hg w5 hbox hb;have BK3:=am_ (hbox);have GE3:=am_ ((zg2_ HB GE1 GE2 hg:w.heap.size≤gb3));replace HB:=am_ (below_step (zl2_ HB GE1 GE2) hb);have NB1_3:=am_ ((zn_ BK1 hg:gb1≠gb3));have NB3_1:=am_ ((zm_ BK1 hg:gb3≠gb1));replace BK1:=bb_ BK1 hb;have NB2_3:=am_ ((zn_ BK2 hg:gb2≠gb3));have NB3_2:=am_ ((zm_ BK2 hg:gb3≠gb2));replace BK2:=bb_ BK2 hb;clear hb hbox hg;have hnb6:=NB1_2.out;have hnc6:=NB2_1.out;have hnb7:=NB1_3.out;have hnc7:=NB3_1.out;obtain ⟨hcz8_0,hcz8_1,hcz8_2,hfz8_0,hfz8_1,hfz8_2⟩:=y3_ BK1;have hnb9:=NB2_3.out;have hnc9:=NB3_2.out;obtain ⟨hcz10_0,hcz10_1,hcz10_2,hfz10_0,hfz10_1,hfz10_2⟩:=y3_ BK2;obtain ⟨hcz11_0,hcz11_1,hcz11_2⟩:=x3_ BK3;have hfz11_0:=blk_frozen BK3.out 0;have hfz11_1:=blk_frozen BK3.out 1;have hfz11_2:=blk_frozen BK3.out 2))
 refine bodyPost_ret (results_cell_row rfl _ _ gb3 37 #[.int .i64 (wrap64 (a0_0 - a1_0)), .int .i64 (wrap64 (a0_1 - a1_1)), .int .i64 (wrap64 (a0_2 - a1_2))] (0,0) _ rfl (zw_ BK3) Try.underlying37 rfl (by kernel_rfl)) rfl ?_;exact ⟨by first|rfl|(simp [errW_none,errW_some]<;>rfl)|(simp [*,errW_none,errW_some]<;>rfl),zl3_ HB GE1 GE2 GE3⟩

end Go.Proofs.Ytahidkjncljkaaa.Print

/- PlanLeads: a part -/
import Derived.Shelf.SlSortCmp.KitK
import Derived.Deep.LoopGhost
import Derived.Shelf.Abstract
import Derived.Laws.Cover1
import Derived.WalkSpells
import Derived.Sort.Grow
import Derived.Shelf.GgSortFunc.RowK
import Derived.Test.YtahidkjncljkaaaBPlanLeads0
import Derived.Test.YtahidkjncljkaaaBPlanLeads1
set_option linter.unusedVariables false
set_option linter.unusedSimpArgs false
namespace Go.Proofs.Ytahidkjncljkaaa.Print
open Go.Shelf Go.RowKit Go.Lib Go.Sort
open Go.Proofs.YtahidkjncljkaaaW.PrintWords Go.Proofs.YtahidkjncljkaaaW.PrintLast Go.Proofs.YtahidkjncljkaaaW.PrintMore
set_option maxHeartbeats 8000000 in
set_option maxRecDepth 1000000 in
theorem stable_s {P:Program} (FI:P.funcs[170]?=some Try.f170) (FY:P.funcs[171]?=some Try.f171) (F:P.funcs[152]?=some Try.f152) (L:SortTS P) (cf:ByteArray→ByteArray→Int) (g:Nat) (cb:Array Value) (blk cap:Nat) (d0:Array ByteArray) (w0:World)
    (HI:InsNS P cf g cb blk cap d0 w0) (HY: ∀N,SymNS P cf g cb blk cap d0 w0 N) (hsz:d0.size<576460752303423488) (d:Array ByteArray) (w:World) (hs:d0.size=d.size) (S:SRow w0 blk cap d w):
    Calls P 152 #[.slice (some ⟨blk,0,none⟩) d.size cap, .int .i64 d.size, .func (.func g) #[] cb] w fun e w'=>e= .returned (.tuple #[])∧ ∃d',SRow w0 blk cap d' w'∧SortedIn (ltOf cf) 0 d.size d'∧PermIn 0 d.size d d':=by
  have mixed:=L.mixed;have t0:=L.t0;have a0:=L.a0;have z0:=L.z0;have v0:=L.v0;have t3:=L.t3;have a3:=L.a3;have z3:=L.z3;have v3:=L.v3;have t4:=L.t4;have a4:=L.a4;have z4:=L.z4;have v4:=L.v4;have t5:=L.t5;have a5:=L.a5;have z5:=L.z5;have v5:=L.v5;have t22:=L.t22;have a22:=L.a22;have z22:=L.z22;have v22:=L.v22;have t25:=L.t25;have a25:=L.a25;have z25:=L.z25;have v25:=L.v25;have tE:=L.tE;have aE:=L.aE;have zE:=L.zE;have vE:=L.vE;have u0:=run_underlying L.t0;have u3:=run_underlying L.t3;have u4:=run_underlying L.t4;have u5:=run_underlying L.t5;have u22:=run_underlying L.t22;have uE:=run_underlying L.tE;have eI: ∀args w,(callFunc 170 args).run P w= .ok (.enter 170 args) w:=enters_of FI (by kernel_rfl) rfl;have eY: ∀args w,(callFunc 171 args).run P w= .ok (.enter 171 args) w:=enters_of FY (by kernel_rfl) rfl;have S0:Aside (SRow w0 blk cap d w):=S;have HII:Hid _:=HI;have HYY:Hid _:=HY;clear S HI HY;obtain ⟨n,hn⟩: ∃n,n=d.size:=⟨_,rfl⟩;rw [←hn];have HN:Hid (n=d.size):=hn;have hn1:n≤d.size∧d.size≤n:=by omega
  clear hn;go_enter F,Try.ntmps152;go_wp2
  go_loopg [7,8] (n+1) (fun kx s7 s8 wr=> ∃(t a:Nat) (dk:Array ByteArray),s7= .int .i64 a∧s8= .int .i64 ((a:Int)+20)∧a≤n∧n - a≤kx∧dk.size=n∧Aside (SRow w0 blk cap dk wr)∧Hid (a=t*20∧Upto (ltOf cf) 20 n t dk∧PermIn 0 n d dk))
  case atStart=>exact ⟨0,0,d,rfl,rfl,by omega,by omega,HN.out.symm,S0,(⟨by omega,fun c hc=>by omega,permIn_refl _ _ _⟩:_∧_∧_)⟩
  case round=>
    clear S0;obtain ⟨t,a,dk,rfl,rfl,han,hkx,hds,S1,HH⟩:=hrel;have HD:Hid (dk.size=n):=hds;have hd1:dk.size≤n∧n≤dk.size:=by omega
    clear hds;by_cases hlt:a+20≤n
    · have hltz : (a : Int) + 20 ≤ (n : Int) := by omega
      have hcall:=HII.out a (a+20) dk wr (by omega) S1.out (by omega) (by omega)
      rw [show ((a+20:Nat):Int)=(a:Int)+20 by omega,HD.out] at hcall
      clear S1
      go_wp2_with (go_at_fn 170;refine hcall.mono ?_;rintro e_ w1 ⟨rfl,d1,S2,X,Y⟩;have S3:Aside (SRow w0 blk cap d1 w1):=S2;have T:Hid (SortedIn (ltOf cf) a (a+20) d1∧PermIn a (a+20) dk d1):=(⟨X,Y⟩:_∧_);clear X Y S2)
      go_roundg (n - (a+20))
      case measure=>omega
      case rel=>
        have HH2:Hid (a+20=(t+1)*20∧Upto (ltOf cf) 20 n (t+1) d1∧PermIn 0 n d d1):=by
          obtain ⟨q1,q2,q3⟩:=HH.out;have e1:t*20=a:=q1.symm;have e2:min (t*20+20) n=a+20:=by omega
          show _∧_∧_
          exact ⟨by omega,upto_step q2 (by rw [e1,←e1,e2,e1];exact T.out.2) (by rw [e2,e1];exact T.out.1),part_perm q3 T.out.2 hlt (by omega)⟩
        exact ⟨t+1,a+20,d1,by rw [show ((a+20:Nat):Int)=(a:Int)+20 by omega],by rw [show ((a+20:Nat):Int)=(a:Int)+20 by omega],hlt,Nat.le_refl _,by rw [T.out.2.1];exact HD.out,S3,HH2⟩
    have hltz: ¬(a:Int)+20≤(n:Int):=by omega
    have hcall:=HII.out a n dk wr (by omega) S1.out (by omega) (by omega);rw [HD.out] at hcall;clear S1;go_wp2_with (go_at_fn 170;refine hcall.mono ?_;rintro e_ w1 ⟨rfl,d1,S2,X,Y⟩;have S3:Aside (SRow w0 blk cap d1 w1):=S2;have T:Hid (SortedIn (ltOf cf) a n d1∧PermIn a n dk d1):=(⟨X,Y⟩:_∧_);clear X Y S2)
    have HB:Hid (Blocks (ltOf cf) 20 n d1∧PermIn 0 n d d1∧d1.size=n):=by
      obtain ⟨q1,q2,q3⟩:=HH.out;have e1:t*20=a:=q1.symm;have e2:min (t*20+20) n=n:=by omega
      show _∧_∧_
      exact ⟨upto_all (upto_step q2 (by rw [e2,e1];exact T.out.2) (by rw [e2,e1];exact T.out.1)) (by omega),part_perm q3 T.out.2 (Nat.le_refl _) (by omega),by rw [T.out.2.1];exact HD.out⟩
    clear HH T HD hd1 hlt hltz;go_loopg [6] (n+1) (fun kx s6 wr2=> ∃(bs:Nat) (dk:Array ByteArray),s6= .int .i64 bs∧20≤bs∧bs≤2*n+20∧n - bs≤kx∧Aside (SRow w0 blk cap dk wr2)∧Hid (Blocks (ltOf cf) bs n dk∧PermIn 0 n d dk∧dk.size=n))
    case atStart=>exact ⟨20,d1,rfl,by omega,by omega,by omega,S3,HB⟩
    case round=>
      clear S3 HB;obtain ⟨bs,dk,rfl,hbs,hbs2,hkx2,S1,HB⟩:=hrel;by_cases hlt:bs<n;rotate_left
      · have hltz : ¬ (bs : Int) < (n : Int) := by omega
        go_wp2
        go_end0
        exact ⟨rfl,dk,S1.out,blocks_all HB.out.1 (by omega),HB.out.2.1⟩
      have hltz:(bs:Int)<(n:Int):=by omega
      go_wp2
      go_loopg [7,8] (n+1) (fun kx s7 s8 wr3=> ∃(t a:Nat) (dk:Array ByteArray),s7= .int .i64 a∧s8= .int .i64 ((a:Int)+2*(bs:Int))∧a≤n∧n - a≤kx∧Aside (SRow w0 blk cap dk wr3)∧Hid (a=t*(2*bs)∧Mixed (ltOf cf) bs n t dk∧PermIn 0 n d dk∧dk.size=n))
      case atStart=>exact ⟨0,0,dk,rfl,by simp,by omega,by omega,S1,(⟨by omega,mixed_zero HB.out.1,HB.out.2.1,HB.out.2.2⟩:_∧_∧_∧_)⟩
      case round=>
        clear S1 HB;obtain ⟨t,a,dk,rfl,rfl,han,hkx3,S1,HH⟩:=hrel;have hd1:dk.size≤n∧n≤dk.size:=by have:=HH.out.2.2.2;omega
        by_cases hle:a+2*bs≤n
        · have hlez : (a : Int) + 2 * (bs : Int) ≤ (n : Int) := by omega
          have hm:SortedIn (ltOf cf) a (a+bs) dk∧SortedIn (ltOf cf) (a+bs) (a+2*bs) dk:=by
            obtain ⟨q1,q2,_,_⟩:=HH.out;have q:=mixed_at q2;rw [←q1,Nat.min_eq_left (by omega),Nat.min_eq_left (by omega)] at q;exact q
          have hcall:SymRS P cf g cb blk cap w0 a (a+bs) (a+2*bs) dk wr:=HYY.out _ a (a+bs) (a+2*bs) dk wr (Nat.le_refl _) (by omega) S1.out (by omega) (by omega) (by omega) hm.1 hm.2
          unfold SymRS at hcall
          rw [show ((a+bs:Nat):Int)=(a:Int)+(bs:Int) by omega,show ((a+2*bs:Nat):Int)=(a:Int)+2*(bs:Int) by omega,HH.out.2.2.2] at hcall
          clear S1 hm
          go_wp2_with (go_at_fn 171;refine hcall.mono ?_;rintro e_ w1 ⟨rfl,d1,S2,X,Y⟩;have S3:Aside (SRow w0 blk cap d1 w1):=S2;have T:Hid (SortedIn (ltOf cf) a (a+2*bs) d1∧PermIn a (a+2*bs) dk d1):=(⟨X,Y⟩:_∧_);clear X Y S2)
          go_roundg (n - (a+2*bs))
          case measure=>omega
          case rel=>
            have HH2:Hid (a+2*bs=(t+1)*(2*bs)∧Mixed (ltOf cf) bs n (t+1) d1∧PermIn 0 n d d1∧d1.size=n):=by
              obtain ⟨q1,q2,q3,q4⟩:=HH.out;have e2:min (t*(2*bs)+2*bs) n=t*(2*bs)+2*bs:=by omega
              have T1:=T.out;rw [q1] at T1
              show _∧_∧_∧_
              exact ⟨by rw [Nat.add_mul,Nat.one_mul];omega,mixed_step q2 (by rw [e2];exact T1.2) (by rw [e2];exact T1.1),part_perm q3 T.out.2 hle (by omega),by rw [T.out.2.1];exact q4⟩
            exact ⟨t+1,a+2*bs,d1,by rw [show ((a+2*bs:Nat):Int)=(a:Int)+2*(bs:Int) by omega],by rw [show ((a+2*bs:Nat):Int)=(a:Int)+2*(bs:Int) by omega],hle,Nat.le_refl _,S3,HH2⟩
        have hlez: ¬(a:Int)+2*(bs:Int)≤(n:Int):=by omega
        by_cases hlm:a+bs<n;rotate_left
        · have hlmz : ¬ (a : Int) + (bs : Int) < (n : Int) := by omega
          go_wp2
          go_roundg (n - 2*bs)
          case measure=>omega
          case rel=>
            have HB2:Hid (Blocks (ltOf cf) (2*bs) n dk∧PermIn 0 n d dk∧dk.size=n):=(⟨mixed_end HH.out.2.1 (by have:=HH.out.1;omega),HH.out.2.2.1,HH.out.2.2.2⟩:_∧_∧_);exact ⟨2*bs,dk,by rw [show ((2*bs:Nat):Int)=(bs:Int)*2 by omega],by omega,by omega,Nat.le_refl _,S1,HB2⟩
        have hlmz:(a:Int)+(bs:Int)<(n:Int):=by omega
        have hm:SortedIn (ltOf cf) a (a+bs) dk∧SortedIn (ltOf cf) (a+bs) n dk:=by
          obtain ⟨q1,q2,_,_⟩:=HH.out;have q:=mixed_at q2;rw [←q1,Nat.min_eq_left (by omega),Nat.min_eq_right (by omega)] at q;exact q
        have hcall:SymRS P cf g cb blk cap w0 a (a+bs) n dk wr:=HYY.out _ a (a+bs) n dk wr (Nat.le_refl _) (by omega) S1.out (by omega) (by omega) (by omega) hm.1 hm.2;unfold SymRS at hcall;rw [show ((a+bs:Nat):Int)=(a:Int)+(bs:Int) by omega,HH.out.2.2.2] at hcall;clear S1 hm;go_wp2_with (go_at_fn 171;refine hcall.mono ?_;rintro e_ w1 ⟨rfl,d1,S2,X,Y⟩;have S3:Aside (SRow w0 blk cap d1 w1):=S2;have T:Hid (SortedIn (ltOf cf) a n d1∧PermIn a n dk d1):=(⟨X,Y⟩:_∧_);clear X Y S2)
        go_roundg (n - 2*bs)
        case measure=>omega
        case rel=>
          have HB2:Hid (Blocks (ltOf cf) (2*bs) n d1∧PermIn 0 n d d1∧d1.size=n):=by
            obtain ⟨q1,q2,q3,q4⟩:=HH.out;have e2:min (t*(2*bs)+2*bs) n=n:=by omega
            have T1:=T.out;rw [q1] at T1
            show _∧_∧_
            exact ⟨mixed_last (mixed_step q2 (by rw [e2];exact T1.2) (by rw [e2];exact T1.1)) (by omega),part_perm q3 T.out.2 (Nat.le_refl _) (by omega),by rw [T.out.2.1];exact q4⟩
          exact ⟨2*bs,d1,by rw [show ((2*bs:Nat):Int)=(bs:Int)*2 by omega],by omega,by omega,Nat.le_refl _,S3,HB2⟩
end Go.Proofs.Ytahidkjncljkaaa.Print

namespace Go.Proofs.Ytahidkjncljkaaa.Print
open Go.RowKit Go.Proofs.YtahidkjncljkaaaW.PrintWords Go.Proofs.YtahidkjncljkaaaW.PrintLast Go.Proofs.YtahidkjncljkaaaW.PrintMore
def cmpI (x y:Int):Int:=if x<y then -1 else if y<x then 1 else 0
def cmpS (x y:ByteArray):Int:=if lt x y=true then -1 else if lt y x=true then 1 else 0
set_option maxRecDepth 100000 in
theorem isNaNI_calls (x:Int) (w:World):Calls Try.prog 117 #[.int .i64 x] w fun e w'=>e= .returned (.bool false)∧w'=w:=by
 go_enter Try.func117,Try.ntmps117;go_wp2
 go_ret
 exact ⟨by simp,rfl⟩
set_option maxRecDepth 100000 in
theorem isNaNS_calls (x:ByteArray) (w:World):Calls Try.prog 118 #[.string x] w fun e w'=>e= .returned (.bool false)∧w'=w:=by
 go_enter Try.func118,Try.ntmps118;go_wp2
 go_ret
 exact ⟨by simp,rfl⟩
set_option maxHeartbeats 1000000 in
set_option maxRecDepth 100000 in
theorem cmpI_calls (x y:Int) (w:World):Calls Try.prog 81 #[.int .i64 x, .int .i64 y] w fun e w'=>e= .returned (.int .i64 (cmpI x y))∧w'=w:=by
  by_cases h1:x<y
  · go_enter Try.func81, Try.ntmps81
    go_wp2_with (go_at_call 117;refine (isNaNI_calls _ _).mono ?_;rintro e w1 ⟨rfl,rfl⟩)
    go_ret
    exact ⟨by unfold cmpI;rw [if_pos h1];rfl,rfl⟩
  by_cases h2:y<x
  · go_enter Try.func81, Try.ntmps81
    go_wp2_with (go_at_call 117;refine (isNaNI_calls _ _).mono ?_;rintro e w1 ⟨rfl,rfl⟩)
    go_ret
    exact ⟨by unfold cmpI;rw [if_neg (by omega),if_pos (by omega)];rfl,rfl⟩
  go_enter Try.func81,Try.ntmps81;go_wp2_with (go_at_call 117;refine (isNaNI_calls _ _).mono ?_;rintro e w1 ⟨rfl,rfl⟩)
  go_ret
  exact ⟨by unfold cmpI;rw [if_neg (by omega),if_neg (by omega)];rfl,rfl⟩
set_option maxHeartbeats 1000000 in
set_option maxRecDepth 100000 in
theorem cmpS_calls (x y:ByteArray) (w:World):Calls Try.prog 82 #[.string x, .string y] w fun e w'=>e= .returned (.int .i64 (cmpS x y))∧w'=w:=by
  by_cases h1:lt x y=true
  · have g1 : Op.bytesLess x.toList y.toList = true := h1
    go_enter Try.func82,Try.ntmps82
    go_wp2_with (go_at_call 118;refine (isNaNS_calls _ _).mono ?_;rintro e w1 ⟨rfl,rfl⟩)
    go_ret
    exact ⟨by unfold cmpS;rw [if_pos h1];rfl,rfl⟩
  have g1:Op.bytesLess x.toList y.toList=false:=Bool.eq_false_iff.mpr h1;by_cases h2:lt y x=true
  · have g3 : (x.toList == y.toList) = false := beq_eq_false_iff_ne.mpr (fun q => by rw [nm_inj.1 q, lt_irrefl] at h2; cases h2)
    go_enter Try.func82,Try.ntmps82
    go_wp2_with (go_at_call 118;refine (isNaNS_calls _ _).mono ?_;rintro e w1 ⟨rfl,rfl⟩)
    go_ret
    exact ⟨by unfold cmpS;rw [if_neg h1,if_pos h2];rfl,rfl⟩
  have g3:(x.toList==y.toList)=true:=beq_iff_eq.mpr (nm_inj.2 (Classical.byContradiction fun q=>h2 (lt_total (Bool.eq_false_iff.mpr h1) q)));go_enter Try.func82,Try.ntmps82;go_wp2_with (go_at_call 118;refine (isNaNS_calls _ _).mono ?_;rintro e w1 ⟨rfl,rfl⟩)
  go_ret
  exact ⟨by unfold cmpS;rw [if_neg h1,if_neg h2];rfl,rfl⟩
def orI (x y:Int):Int:=if x=0 then y else x
set_option maxHeartbeats 1000000 in
set_option maxRecDepth 100000 in
theorem cmpOr_calls_ (b:Nat) (c:Nat) (x y:Int) (w:World) (h0:w.cell? ⟨b,0,none⟩=some (.int .i64 x)) (h1:w.cell? ⟨b,1,none⟩=some (.int .i64 y)):Calls Try.prog 80 #[.slice (some ⟨b,0,none⟩) 2 c] w fun e w'=>e= .returned (.int .i64 (if x=0 then y else x))∧w'=w:=by
  by_cases e1:x=0;rotate_left
  · have f1 : (x != 0) = true := bne_iff_ne.mpr e1
    go_enter Try.func80,Try.ntmps80
    go_wp2
    refine wp_loop_rounds 1 ?_
    rw [rounds_succ]
    go_wp2
    go_ret
    exact ⟨rfl,rfl⟩
  subst e1;by_cases e2:y=0;rotate_left
  · have f2 : (y != 0) = true := bne_iff_ne.mpr e2
    go_enter Try.func80,Try.ntmps80
    go_wp2
    refine wp_loop_rounds 2 ?_
    rw [rounds_succ]
    go_wp2
    rw [rounds_succ]
    go_wp2
    go_ret
    exact ⟨rfl,rfl⟩
  subst e2;go_enter Try.func80,Try.ntmps80;go_wp2
  refine wp_loop_rounds 3 ?_;rw [rounds_succ];go_wp2
  rw [rounds_succ];go_wp2
  rw [rounds_succ];go_wp2
  go_ret
  exact ⟨rfl,rfl⟩
theorem cmpOr_calls (b:Nat) (c:Nat) (x y:Int) (w:World) (h0:w.cell? ⟨b,0,none⟩=some (.int .i64 x)) (h1:w.cell? ⟨b,1,none⟩=some (.int .i64 y)):Calls Try.prog 80 #[.slice (some ⟨b,0,none⟩) 2 c] w fun e w'=>e= .returned (.int .i64 (orI x y))∧w'=w:=cmpOr_calls_ b c x y w h0 h1
end Go.Proofs.Ytahidkjncljkaaa.Print

namespace Go.Proofs.Ytahidkjncljkaaa.Print
open Go.RowKit Go.Proofs.YtahidkjncljkaaaW.PrintWords Go.Proofs.YtahidkjncljkaaaW.PrintLast Go.Proofs.YtahidkjncljkaaaW.PrintMore
attribute [local go_sem] max2_int min2_int max_two min_two max_three min_three max_four min_four

set_option maxHeartbeats 8000000 in
set_option maxRecDepth 100000 in
theorem wantMade_calls (A:Option Addr) (c:Nat) (l:List S39) (w:World) (hr:Kd.C k39 w A l.length l) (hc:l.length≤c) (hl:l.length≤1000) (hs:smallW l):
  Calls Try.prog 76 #[.slice A l.length c] w fun e w'=> ∃b mb n,e= .returned (.pointer (some ⟨b,0,none⟩))∧w.heap.size≤b∧w'.heap[b]?=some (.cells #[.slice A l.length c, .map (some mb)] 113 (0,0))∧MapAt w' mb n (fillR l)∧Below w.heap.size w w':=by
 have hu113:=Try.underlying113
 have hu110:=Try.underlying110
 have HR:=Aside0.mk hr
 have HC:=Aside0.mk hc
 have HS:=Aside0.mk hs
 have HB:=am_ (Below.refl w.heap.size w)
 clear hr hc hs
 go_enter Try.func76,Try.ntmps76
 go_wp2_with (first|((with_reducible refine gate_dst (N:=7) rfl ?_);refine bx_ (N:=7) (cs:=#[.slice A l.length c, .map none]) (t:=113) ?_;intro gb7 hg w2 hbox hb;have BK7:=am_ (hbox);have GE7:=am_ ((by rw [hg];exact below_size HB.out:w.heap.size≤gb7));replace HB:=am_ (below_step HB.out hb);have EQ7:=am_ (hg);clear hb hbox hg)|(go_at_call 74;refine (wantFill_calls w _ gb7 A c l none BK7.out GE7.out HB.out HR.out HC.out hl HS.out).mono ?_;rintro e w3 ⟨rfl,mb,n,hbk,hm,hb,_⟩;have BK:=Aside0.mk hbk;have MP:=Aside0.mk hm;have HB3:=Aside0.mk hb;clear hbk hm hb))
 go_ret
 exact ⟨gb7,mb,n,rfl,GE7.out,BK.out,MP.out,HB3.out⟩


end Go.Proofs.Ytahidkjncljkaaa.Print

namespace Go.Proofs.Ytahidkjncljkaaa.Print
open Go.RowKit Go.Proofs.YtahidkjncljkaaaW.PrintWords Go.Proofs.YtahidkjncljkaaaW.PrintLast Go.Proofs.YtahidkjncljkaaaW.PrintMore
def cmpW (f:ByteArray→Int) (x y:ByteArray):Int:=orI (cmpI (f x) (f y)) (cmpS x y)
set_option maxHeartbeats 8000000 in
set_option maxRecDepth 100000 in
theorem wantTop1_calls (w:World) (gd b mb n:Nat) (v0:Value) (f:ByteArray→Int) (hgd:w.heap[gd]?=some (.cells #[.pointer (some ⟨b,0,none⟩)] 108 (0,0))) (hb:w.heap[b]?=some (.cells #[v0, .map (some mb)] 113 (0,0))) (hm:MapAt w mb n f) (x y:S39) (hx:x.f0.size≤maxLen) (hy:y.f0.size≤maxLen):
    Calls Try.prog 79 #[.agg #[.string x.f0, .string x.f1, .int .i64 x.f2.f0, .int .i64 x.f2.f1, .int .i64 x.f2.f2], .agg #[.string y.f0, .string y.f1, .int .i64 y.f2.f0, .int .i64 y.f2.f1, .int .i64 y.f2.f2], .pointer (some ⟨gd,0,none⟩)] w fun e w'=>e= .returned (.int .i64 (cmpW f x.f0 y.f0))∧ ∃q os',w'=Sort.grow (w.drewN q) os':=by
  have hu113:=Try.underlying113;have hu39:=Try.underlying39;have HX:=Aside0.mk hx;have HY:=Aside0.mk hy;obtain ⟨wB,hwB⟩: ∃wB,wB=((w.alloc (.cells #[.string x.f0, .string x.f1, .int .i64 x.f2.f0, .int .i64 x.f2.f1, .int .i64 x.f2.f2] 39)).alloc (.cells #[.string y.f0, .string y.f1, .int .i64 y.f2.f0, .int .i64 y.f2.f1, .int .i64 y.f2.f2] 39)).drew:=⟨_,rfl⟩;have hs1:(w.alloc (.cells #[.string x.f0, .string x.f1, .int .i64 x.f2.f0, .int .i64 x.f2.f1, .int .i64 x.f2.f2] 39)).heap.size=w.heap.size+1:=by simp
  have HGD:=am_ (show wB.heap[gd]?=some _ by rw [hwB];exact blk_drew (blk_alloc (blk_alloc hgd _) _));have HBK:=am_ (show wB.heap[b]?=some _ by rw [hwB];exact blk_drew (blk_alloc (blk_alloc hb _) _));have HM:=am_ (show MapAt wB mb n f by rw [hwB];exact ((hm.below (below_alloc (Below.refl _ _) _)).below (below_alloc (Below.refl _ _) _)).kept rfl);have H3:=am_ (show wB.heap[w.heap.size]?=some (.cells #[.string x.f0, .string x.f1, .int .i64 x.f2.f0, .int .i64 x.f2.f1, .int .i64 x.f2.f2] 39 (0,0)) by rw [hwB];exact blk_drew (blk_alloc (blk_new _ _) _));have H4:=am_ (show wB.heap[w.heap.size+1]?=some (.cells #[.string y.f0, .string y.f1, .int .i64 y.f2.f0, .int .i64 y.f2.f1, .int .i64 y.f2.f2] 39 (0,0)) by rw [hwB,←hs1];exact blk_drew (blk_new _ _));have HW:=am_ (show wB=Sort.grow (w.drewN 1) #[.cells #[.string x.f0, .string x.f1, .int .i64 x.f2.f0, .int .i64 x.f2.f1, .int .i64 x.f2.f2] 39, .cells #[.string y.f0, .string y.f1, .int .i64 y.f2.f0, .int .i64 y.f2.f1, .int .i64 y.f2.f2] 39] by rw [hwB,Sort.alloc_eq_grow,Sort.alloc_eq_grow,Sort.grow_grow];rfl);have HWB:=Aside0.mk hwB;clear hgd hb hm hx hy hwB hs1;obtain ⟨g3,hg3⟩: ∃g3,g3=w.heap.size:=⟨_,rfl⟩;obtain ⟨g4,hg4⟩: ∃g4,g4=w.heap.size+1:=⟨_,rfl⟩;rw [←hg3] at H3;rw [←hg4] at H4;go_enter Try.func79,Try.ntmps79;go_upto_region 1 with (fail)
  rw [←hg4,←hg3];clear hg3 hg4;refine start_ (n:=23) (S:=fun w'=>w'.cell? ⟨gd,0,none⟩=some (.pointer (some ⟨b,0,none⟩))∧w'.cell? ⟨b,1,none⟩=some (.map (some mb))∧w'.cell? ⟨g3,0,none⟩=some (.string x.f0)∧w'.cell? ⟨g4,0,none⟩=some (.string y.f0)∧(Instr.lookup 111 (.map (some mb)) (.string x.f0) false).run Try.prog w'= .ok (.int .i64 (f x.f0)) w'∧(Instr.lookup 111 (.map (some mb)) (.string y.f0) false).run Try.prog w'= .ok (.int .i64 (f y.f0)) w') (ds:=[]) (bt_ 23 0) (by kernel_rfl) rfl rfl (by rw [←HWB.out];exact ⟨(blk_cell HGD.out 0).trans rfl,(blk_cell HBK.out 1).trans rfl,(blk_cell H3.out 0).trans rfl,(blk_cell H4.out 0).trans rfl,HM.out.look Try.underlying111 HX.out _ rfl,HM.out.look Try.underlying111 HY.out _ rfl⟩) (fun hHeld=> ?_);rw [←HWB.out] at hHeld ⊢;generalize wB=w9 at HGD HBK HM H3 H4 HW hHeld ⊢;clear HWB;refine tv_ (i:=0) (N:=some 6) (bt_ 23 1) hHeld ?_;refine pv_ (i:=1) (N:=some 7) (bt_ 23 3) ?_;refine pv_ (i:=2) (N:=some 8) (bt_ 23 7) ?_;refine tv_ (i:=3) (N:=some 9) (bt_ 23 15) hHeld ?_;refine pv_ (i:=4) (N:=some 10) (bt_ 23 31) ?_;refine tv_ (i:=5) (N:=some 11) (bt_ 23 63) hHeld ?_;refine tv_ (i:=6) (N:=some 12) (bt_ 23 127) hHeld ?_;refine tv_ (i:=7) (N:=some 13) (bt_ 23 255) hHeld ?_;refine pv_ (i:=8) (N:=some 14) (bt_ 23 511) ?_;refine pv_ (i:=9) (N:=some 15) (bt_ 23 1023) ?_;refine tv_ (i:=10) (N:=some 16) (bt_ 23 2047) hHeld ?_;refine pv_ (i:=11) (N:=some 17) (bt_ 23 4095) ?_;refine tv_ (i:=12) (N:=some 18) (bt_ 23 8191) hHeld ?_
  refine tv_ (i:=13) (N:=some 19) (bt_ 23 16383) hHeld ?_;refine pv_ (i:=15) (N:=some 21) (bt_ 23 49151) ?_;refine tv_ (i:=16) (N:=some 22) (bt_ 23 114687) hHeld ?_;refine pv_ (i:=17) (N:=some 23) (bt_ 23 245759) ?_;refine tv_ (i:=18) (N:=some 24) (bt_ 23 507903) hHeld ?_;refine one_ (i:=14) (N:=some 20) (bt_ 23 524287) rfl rfl (by kernel_rfl) (by decide) (fun K hK=> ?_);refine goes_ Try.func81 (by kernel_rfl) rfl #[.int .i64 (f x.f0), .int .i64 (f y.f0)] (by rfl) rfl rfl (by (try simp only [List.map_toArray,List.map_cons,List.map_nil]);rfl) ?_;refine (cmpI_calls (f x.f0) (f y.f0) _).mono ?_;rintro e wq ⟨rfl,hwq⟩;rw [hwq];clear hwq wq;refine ⟨_,rfl, ?_⟩;refine hK.out _ _ ⟨(blk_cell HGD.out 0).trans rfl,(blk_cell HBK.out 1).trans rfl,(blk_cell H3.out 0).trans rfl,(blk_cell H4.out 0).trans rfl,HM.out.look Try.underlying111 HX.out _ rfl,HM.out.look Try.underlying111 HY.out _ rfl⟩ (fun hHeld=> ?_);clear hK K;refine norm_ (a':= ?_) ?_ ?_;rotate_left
  · show Act.put _ (some 20) _ = _
    simp only [Act.put,List.setIfInBounds_toArray,List.set_cons_zero,List.set_cons_succ,i64_w,i32_w]
    rfl
  refine one_ (i:=19) (N:=some 25) (bt_ 23 1048575) rfl rfl (by kernel_rfl) (by decide) (fun K hK=> ?_);refine goes_ Try.func82 (by kernel_rfl) rfl #[.string x.f0, .string y.f0] (by rfl) rfl rfl (by (try simp only [List.map_toArray,List.map_cons,List.map_nil]);rfl) ?_;refine (cmpS_calls x.f0 y.f0 _).mono ?_;rintro e wq ⟨rfl,hwq⟩;rw [hwq];clear hwq wq;refine ⟨_,rfl, ?_⟩;refine hK.out _ _ ⟨(blk_cell HGD.out 0).trans rfl,(blk_cell HBK.out 1).trans rfl,(blk_cell H3.out 0).trans rfl,(blk_cell H4.out 0).trans rfl,HM.out.look Try.underlying111 HX.out _ rfl,HM.out.look Try.underlying111 HY.out _ rfl⟩ (fun hHeld=> ?_);clear hK K;refine norm_ (a':= ?_) ?_ ?_;rotate_left
  · show Act.put _ (some 25) _ = _
    simp only [Act.put,List.setIfInBounds_toArray,List.set_cons_zero,List.set_cons_succ,i64_w,i32_w]
    rfl
  refine one_ (i:=20) (N:=some 26) (bt_ 23 2097151) rfl rfl (by kernel_rfl) (by decide) (fun K hK=> ?_);refine event_step (by rfl) (v:= .slice (some ⟨w9.heap.size,0,none⟩) 2 2) (w1:=w9.alloc (.cells #[.int .i64 (cmpI (f x.f0) (f y.f0)), .int .i64 (cmpS x.f0 y.f0)] 3)) ?hr ?_;(case hr=>first|(go_simp;done)|(go_simp;rfl));have hn:=blk_new w9 (.cells #[.int .i64 (cmpI (f x.f0) (f y.f0)), .int .i64 (cmpS x.f0 y.f0)] 3 (0,0));have n0_:=am_ (blk_alloc HGD.out (.cells #[.int .i64 (cmpI (f x.f0) (f y.f0)), .int .i64 (cmpS x.f0 y.f0)] 3));have n1_:=am_ (blk_alloc HBK.out (.cells #[.int .i64 (cmpI (f x.f0) (f y.f0)), .int .i64 (cmpS x.f0 y.f0)] 3));have n2_:=am_ (blk_alloc H3.out (.cells #[.int .i64 (cmpI (f x.f0) (f y.f0)), .int .i64 (cmpS x.f0 y.f0)] 3));have n3_:=am_ (blk_alloc H4.out (.cells #[.int .i64 (cmpI (f x.f0) (f y.f0)), .int .i64 (cmpS x.f0 y.f0)] 3));have n4_:=am_ (HM.out.below (below_alloc (Below.refl _ _) (.cells #[.int .i64 (cmpI (f x.f0) (f y.f0)), .int .i64 (cmpS x.f0 y.f0)] 3)));have HN:=Aside0.mk hn;clear hn;obtain ⟨gs,hgs⟩: ∃gs,gs=w9.heap.size:=⟨_,rfl⟩;rw [←hgs] at HN ⊢;obtain ⟨wA,hwA⟩: ∃wA,wA=w9.alloc (.cells #[.int .i64 (cmpI (f x.f0) (f y.f0)), .int .i64 (cmpS x.f0 y.f0)] 3):=⟨_,rfl⟩;rw [←hwA] at HN n0_ n1_ n2_ n3_ n4_ ⊢;clear hgs;have HWA:=Aside0.mk hwA;clear hwA HGD HBK H3 H4 HM;have HGD:=n0_;have HBK:=n1_;have H3:=n2_;have H4:=n3_;have HM:=n4_;clear n0_ n1_ n2_ n3_ n4_
  refine hK.out _ _ ⟨(blk_cell HGD.out 0).trans rfl,(blk_cell HBK.out 1).trans rfl,(blk_cell H3.out 0).trans rfl,(blk_cell H4.out 0).trans rfl,HM.out.look Try.underlying111 HX.out _ rfl,HM.out.look Try.underlying111 HY.out _ rfl⟩ (fun hHeld=> ?_);clear hK K;refine norm_ (a':= ?_) ?_ ?_;rotate_left
  · show Act.put _ (some 26) _ = _
    simp only [Act.put,List.setIfInBounds_toArray,List.set_cons_zero,List.set_cons_succ,i64_w,i32_w]
    rfl
  refine one_ (i:=21) (N:=some 27) (bt_ 23 4194303) rfl rfl (by kernel_rfl) (by decide) (fun K hK=> ?_);refine goes_ Try.func80 (by kernel_rfl) rfl #[.slice (some ⟨gs,0,none⟩) 2 2] (by rfl) rfl rfl (by (try simp only [List.map_toArray,List.map_cons,List.map_nil]);rfl) ?_;refine (cmpOr_calls gs 2 (cmpI (f x.f0) (f y.f0)) (cmpS x.f0 y.f0) wA ((blk_cell HN.out 0).trans rfl) ((blk_cell HN.out 1).trans rfl)).mono ?_;rintro e wq ⟨rfl,hwq⟩;rw [hwq];clear hwq wq;refine ⟨_,rfl, ?_⟩;refine hK.out _ _ ⟨(blk_cell HGD.out 0).trans rfl,(blk_cell HBK.out 1).trans rfl,(blk_cell H3.out 0).trans rfl,(blk_cell H4.out 0).trans rfl,HM.out.look Try.underlying111 HX.out _ rfl,HM.out.look Try.underlying111 HY.out _ rfl⟩ (fun hHeld=> ?_);clear hK K;refine norm_ (a':= ?_) ?_ ?_;rotate_left
  · show Act.put _ (some 27) _ = _
    simp only [Act.put,List.setIfInBounds_toArray,List.set_cons_zero,List.set_cons_succ,i64_w,i32_w]
    rfl
  refine pv_ (i:=22) (N:=some 5) (bt_ 23 8388607) ?_;refine done_ (by kernel_rfl) ?_;go_wp2
  go_ret
  exact ⟨rfl,1,#[.cells #[.string x.f0, .string x.f1, .int .i64 x.f2.f0, .int .i64 x.f2.f1, .int .i64 x.f2.f2] 39, .cells #[.string y.f0, .string y.f1, .int .i64 y.f2.f0, .int .i64 y.f2.f1, .int .i64 y.f2.f2] 39]++#[.cells #[.int .i64 (cmpI (f x.f0) (f y.f0)), .int .i64 (cmpS x.f0 y.f0)] 3],by rw [HWA.out,HW.out,Sort.alloc_eq_grow,Sort.grow_grow]⟩
end Go.Proofs.Ytahidkjncljkaaa.Print

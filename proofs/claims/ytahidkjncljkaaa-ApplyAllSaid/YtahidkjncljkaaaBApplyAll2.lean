/- ApplyAll: a part -/
import Derived.Laws.Cover1
import Derived.Shelf.Abstract
import Derived.StillTailTactics
import Derived.Deep.RegionLaw
import Derived.Shelf.RegionOpenPlain
import Derived.WalkSpells
import Derived.Test.YtahidkjncljkaaaBApplyAll0
import Derived.Test.YtahidkjncljkaaaBApplyAll1
set_option linter.unusedVariables false
set_option linter.unusedSimpArgs false
namespace Go.Proofs.Ytahidkjncljkaaa.Print
open Go.RowKit Go.Proofs.YtahidkjncljkaaaW.PrintWords Go.Proofs.YtahidkjncljkaaaW.PrintLast Go.Proofs.YtahidkjncljkaaaW.PrintMore
attribute [local go_sem] max2_int min2_int max_two min_two max_three min_three max_four min_four

def limF (v:S37) (y:S79):S79:=⟨y.f0,y.f1,v,y.f3,y.f4,y.f5⟩
def shape_Limit.f (l0:List (S79)) (a1:ByteArray) (a2_0:Int) (a2_1:Int) (a2_2:Int) (a3:Int):Option ((List (S79))×Int):=
 (vec_May.f a2_0 a2_1 a2_2).bind fun m=>if m=false then some ([],1) else (shape_made.f l0 a1).bind fun p=>(guardF p.1 p.2 a3).bind fun e=>if e≠0 then some ([],e) else (olderF p.1 p.2).bind fun q=>if q.1≠0 then some ([],q.1) else
  (vec_Le.f (rd_T79 q.2 p.2).f4.f0 (rd_T79 q.2 p.2).f4.f1 (rd_T79 q.2 p.2).f4.f2 a2_0 a2_1 a2_2).bind fun b=>if b=false then some ([],12) else some (q.2.set p.2.toNat (limF ⟨a2_0,a2_1,a2_2⟩ (rd_T79 q.2 p.2)),0)
set_option maxHeartbeats 8000000 in
set_option maxRecDepth 100000 in
theorem shape_Limit.calls (A0:Option Addr) (c0:Nat) (l0:List (S79)) (a1:ByteArray) (a2_0:Int) (a2_1:Int) (a2_2:Int) (a3:Int) (r1:List (S79)) (r2:Int) (w:World) (hr0:Kd.C k79 w A0 l0.length l0) (hc0:l0.length≤c0) (h:shape_Limit.f l0 a1 a2_0 a2_1 a2_2 a3=some (r1,r2)):
    Calls Try.prog 139 #[.slice A0 l0.length c0, .string a1, .agg #[.int .i64 a2_0, .int .i64 a2_1, .int .i64 a2_2], .int .i64 a3] w fun e w'=> ∃v0_:Value,e= .returned (.tuple #[v0_, .int .i64 r2])∧Kd.R k79 79 w' w.heap.size (fun _=>True) v0_ r1∧Below w.heap.size w w':=by
  have hu197:=Try.underlying197;have hu195:=Try.underlying195;have hu79:=Try.underlying79;have hu37:=Try.underlying37;unfold shape_Limit.f at h;obtain ⟨m,hm,h1⟩:=Option.bind_eq_some_iff.1 h;clear h;have HMAY:=Aside0.mk hm;have HR:=Aside0.mk hr0;have HC:=Aside0.mk hc0;have HB:=am_ (Below.refl w.heap.size w);have HH:=Aside0.mk h1;clear hr0 hc0 hm h1;go_enter Try.func139,Try.ntmps139;go_wp2_with (first|((with_reducible refine gate_dst (N:=6) rfl ?_);refine bx_ (N:=6) (cs:=#[.int .i64 a2_0, .int .i64 a2_1, .int .i64 a2_2]) (t:=37) ?_;intro gb1 hg w1 hbox hb;have BK1:=am_ (hbox);have GE1:=am_ ((by rw [hg];exact below_size HB.out:w.heap.size≤gb1));replace HB:=am_ (below_step HB.out hb);have EQ1:=am_ (hg);clear hb hbox hg;obtain ⟨cgb1_0,cgb1_1,cgb1_2⟩:=xz3_ BK1))
  refine (vec_May.calls _ _ _ _ _ HMAY.out).mono ?_;rintro e w2 ⟨rfl,hb⟩;clear cgb1_0 cgb1_1 cgb1_2;replace BK1:=am_ (blk_below BK1.out hb);replace HB:=am_ (below_step HB.out hb);clear hb;have h1:=HH.out;clear HH
  cases m with
  | false =>
    rw [if_pos rfl] at h1;cases h1;go_wp2_with fail
    go_ret2
    exact ⟨_,rfl,Kd.R_nil _ _ _ _ _,HB.out⟩
  | true =>
    rw [if_neg (by simp)] at h1;obtain ⟨⟨out,j⟩,hmd,h2⟩:=Option.bind_eq_some_iff.1 h1;clear h1;obtain ⟨e0,hgd,h3⟩:=Option.bind_eq_some_iff.1 h2;clear h2;dsimp only at hgd h3;have HM:=Aside0.mk hmd;have HG:=Aside0.mk hgd;have HH:=Aside0.mk h3;clear hmd hgd h3;go_wp2_with fail
    refine (shape_made.calls _ _ _ _ _ _ _ (Kd.C_below HR.out HB.out) HC.out HM.out).mono ?_;rintro e w3 ⟨v0,rfl,ho,hb⟩;have HO:=am_ (Kd.R_lower ho (below_size HB.out));have HRB:=am_ (R_base_ ho);have GT0:=am_ (blk_lt BK1.out);have GT1:=am_ (Nat.lt_of_lt_of_le (blk_lt BK1.out) hb.size);replace BK1:=am_ (blk_below BK1.out hb);replace HB:=am_ (below_step HB.out hb);clear ho hb;obtain ⟨A5,c5,rfl⟩: ∃A5 c5,v0= .slice A5 out.length c5:=Kd.R_slice HO.out;have HLT:=am_ (Kd.R_lt HO.out);have NE1:=am_ (show some gb1≠(Value.slice A5 out.length c5).ownBlock from fun e=>by have:=HRB.out _ e.symm;have:=GT0.out;omega)
    go_wp2_with (first|((with_reducible refine gate_dst (N:=10) rfl ?_);refine bx_ (N:=10) (cs:=#[.slice none 0 0, .int .i64 0]) (t:=197) ?_;intro gb2 hg w4 hbox hb;replace HO:=am_ (Kd.R_below HO.out hb);replace BK1:=am_ (blk_below BK1.out hb);have BK2:=am_ (hbox);have GE2:=am_ ((by rw [hg];exact below_size HB.out:w.heap.size≤gb2));replace HB:=am_ (below_step HB.out hb);have EQ2:=am_ (hg);clear hb hbox hg)|((with_reducible refine gate_store (t:=197) (p:=10) (v:= .tmp 18) rfl ?_);refine store_all BK2.out 197 (.tmp 10) (.tmp 18) rfl rfl rfl (.agg #[.slice A5 out.length c5, .int .i64 j]) [.slice A5 out.length c5, .int .i64 j] rfl rfl rfl (by kernel_rfl) rfl (by intro q hq;simp only [List.mem_cons,List.not_mem_nil,or_false] at hq;rcases hq with rfl|rfl<;>rfl) ?_;intro w5 hbk hg;replace HO:=am_ (R_put HO.out BK2.out (by decide) hg);replace BK1:=am_ (blk_put_other BK1.out hg (by have:=EQ2.out;have:=GT1.out;omega));replace HB:=am_ (below_put HB.out (below_size HB.out) hg GE2.out);replace BK2:=am_ (hbk);clear hbk hg;obtain ⟨cgb2_0,cgb2_1⟩:=xz2_ BK2))
    have NE2:=am_ (show some gb2≠(Value.slice A5 out.length c5).ownBlock from fun e=>by have:=HLT.out _ e.symm;have:=EQ2.out;omega);refine (shapeGuard_calls _ _ _ out j a3 e0 HO.out HG.out).mono ?_;rintro e w6 ⟨rfl,hb⟩;clear cgb2_0 cgb2_1;replace HO:=am_ (Kd.R_below HO.out hb);replace BK1:=am_ (blk_below BK1.out hb);replace BK2:=am_ (blk_below BK2.out hb);replace HB:=am_ (below_step HB.out hb);clear hb;obtain ⟨cgb2_0,cgb2_1⟩:=xz2_ BK2;have h3:=HH.out;clear HH;by_cases c1:e0=0;rotate_left
    · rw [if_pos c1] at h3
      cases h3
      have q1:(r2==0)=false:=by simpa using c1
      go_wp2_with fail
      go_ret2
      exact ⟨_,rfl,Kd.R_nil _ _ _ _ _,HB.out⟩


    cases c1;rw [if_neg (by simp)] at h3;obtain ⟨⟨e1,l2⟩,hol,h4⟩:=Option.bind_eq_some_iff.1 h3;clear h3;have HOL:=Aside0.mk hol;have HH:=Aside0.mk h4;clear hol h4;go_wp2_with fail
    refine (shapeOlder_calls _ _ _ out l2 j e1 HO.out (below_size HB.out) HOL.out).mono ?_;rintro e w7 ⟨rfl,ho,ht⟩;clear cgb2_0 cgb2_1;replace HO:=am_ (ho);replace BK1:=am_ (ht.block _ _ BK1.out NE1.out);replace BK2:=am_ (ht.block _ _ BK2.out NE2.out);replace HB:=am_ (HB.out.trans ht.below);clear ho ht;obtain ⟨cgb2_0,cgb2_1⟩:=xz2_ BK2;have h4:=HH.out;clear HH;by_cases c2:e1=0;rotate_left
    · rw [if_pos c2] at h4
      cases h4
      have q2:(r2==0)=false:=by simpa using c2
      go_wp2_with fail
      go_ret2
      exact ⟨_,rfl,Kd.R_nil _ _ _ _ _,HB.out⟩
    cases c2;rw [if_neg (by simp)] at h4;obtain ⟨b,hle,h5⟩:=Option.bind_eq_some_iff.1 h4;clear h4;obtain ⟨hj0,hj1⟩:=older_zero HOL.out;obtain ⟨gb,cap,hv0,hgb,hgl⟩:=sh_head HO.out (by have:=older_len HOL.out;omega);rw [older_len HOL.out] at hv0;cases hv0;have hcs:=sh_cells' HO.out (older_len HOL.out) j hj0 hj1;have HJ0:=Aside0.mk hj0;have HJ1:=Aside0.mk hj1;generalize hy:rd_T79 l2 j=y at hcs hle h5;have HY:=Aside0.mk hy;have HGB:=Aside0.mk hgb;have HGL:=Aside0.mk hgl;have HLE:=Aside0.mk hle;have HH:=Aside0.mk h5;have HCS:=Aside0.mk hcs;have k8:=hcs 8 _ rfl;have k9:=hcs 9 _ rfl;have k10:=hcs 10 _ rfl;obtain ⟨v0_,v1_,v2_⟩:=xz3_ BK1;have hB0:Below w7.heap.size w7 w7:=Below.refl _ _;have hBd:Below w7.heap.size w7 w7.drew:=below_drew hB0;clear hj0 hj1 hy hgb hgl hle h5 hcs;go_wp2_with fail
    go_region_held3 (fun w'=>w'.cell? ⟨gb2,0,none⟩=some (.slice (some ⟨gb,0,none⟩) out.length c5)∧w'.cell? ⟨gb2,1,none⟩=some (.int .i64 j)∧w'.cell? ⟨gb,j.toNat*12+8,none⟩=some (.int .i64 y.f4.f0)∧w'.cell? ⟨gb,j.toNat*12+9,none⟩=some (.int .i64 y.f4.f1)∧w'.cell? ⟨gb,j.toNat*12+10,none⟩=some (.int .i64 y.f4.f2)∧w'.cell? ⟨gb1,0,none⟩=some (.int .i64 a2_0)∧w'.cell? ⟨gb1,1,none⟩=some (.int .i64 a2_1)∧w'.cell? ⟨gb1,2,none⟩=some (.int .i64 a2_2)∧Below w7.heap.size w7 w')
      (first|(go_keep;done)|(go_split_ands;refine ⟨?_, ?_, ?_, ?_, ?_, ?_, ?_, ?_, ?_⟩<;>first|exact below_step (by assumption) hb|exact pw_cell_below hb (by first|assumption|(go_keep;done))))
      (first|(go_at_call 159;refine (shapeItem_calls _ ⟨gb,0,none⟩ out.length c5 j HJ0.out HJ1.out).mono ?_;rintro e w' ⟨rfl,hb⟩)|(go_at_call 114;refine (vec_Le.calls _ _ _ _ _ _ _ _ HLE.out).mono ?_;rintro e w' ⟨rfl,hb⟩))
    rename_i hHeld
    have hBz:Below w7.heap.size w7 w':=hHeld.2.2.2.2.2.2.2.2;clear hHeld cgb2_0 cgb2_1 k8 k9 k10 v0_ v1_ v2_ hB0 hBd;have HGL2:=am_ (Nat.lt_of_lt_of_le HGL.out hBz.size);have HCS2:=am_ (fun j' u hu=>(hBz.cell (p:=⟨gb,j.toNat*12+j',none⟩) HGL.out).trans (HCS.out j' u hu));replace HO:=am_ (Kd.R_below HO.out hBz);replace BK1:=am_ (blk_below BK1.out hBz);replace BK2:=am_ (blk_below BK2.out hBz);replace HB:=am_ (below_step HB.out hBz);(try clear hb);clear hBz HCS;obtain ⟨cgb2_0,cgb2_1⟩:=xz2_ BK2;obtain ⟨v0_,v1_,v2_⟩:=xz3_ BK1;have h5:=HH.out;clear HH
    cases b with
    | false =>
      rw [if_pos rfl] at h5;cases h5;go_wp2_with fail
      go_ret2
      exact ⟨_,rfl,Kd.R_nil _ _ _ _ _,HB.out⟩
    | true =>
      rw [if_neg (by simp)] at h5;cases h5;go_wp2_with fail
      have LB:=am_ (blk_lt BK2.out);have LB1:=am_ (blk_lt BK1.out);refine start_ (n:=6) (S:=fun w'=>w'.cell? ⟨gb2,0,none⟩=some (.slice (some ⟨gb,0,none⟩) out.length c5)∧w'.cell? ⟨gb2,1,none⟩=some (.int .i64 j)∧w'.cell? ⟨gb1,0,none⟩=some (.int .i64 a2_0)∧w'.cell? ⟨gb1,1,none⟩=some (.int .i64 a2_1)∧w'.cell? ⟨gb1,2,none⟩=some (.int .i64 a2_2)) (ds:=[5]) (bt_ 6 0) (by kernel_rfl) rfl rfl ⟨cgb2_0,cgb2_1,v0_,v1_,v2_⟩ (fun hHeld=> ?_);refine tv_ (i:=0) (N:=some 38) (bt_ 6 1) hHeld ?_;refine tv_ (i:=2) (N:=some 40) (bt_ 6 5) hHeld ?_;refine one_ (i:=1) (N:=some 39) (bt_ 6 7) rfl rfl (by kernel_rfl) (by decide) (fun K hK=> ?_);refine goes_ Try.func159 (by kernel_rfl) rfl #[.agg #[.slice (some ⟨gb,0,none⟩) out.length c5, .int .i64 j]] (by rfl) rfl rfl (by (try simp only [List.map_toArray,List.map_cons,List.map_nil]);rfl) ?_;refine (shapeItem_calls _ ⟨gb,0,none⟩ out.length c5 j HJ0.out HJ1.out).mono ?_;rintro e w9 ⟨rfl,hb⟩;refine ⟨_,rfl, ?_⟩;refine hK.out _ _ ⟨(hb.cell (p:=⟨gb2,0,none⟩) LB.out).trans hHeld.1,(hb.cell (p:=⟨gb2,1,none⟩) LB.out).trans hHeld.2.1,(hb.cell (p:=⟨gb1,0,none⟩) LB1.out).trans hHeld.2.2.1,(hb.cell (p:=⟨gb1,1,none⟩) LB1.out).trans hHeld.2.2.2.1,(hb.cell (p:=⟨gb1,2,none⟩) LB1.out).trans hHeld.2.2.2.2⟩ (fun hHeld=> ?_);clear hK K;refine norm_ (a':= ?_) ?_ ?_;rotate_left
      · show Act.put _ (some 39) _ = _
        simp only [Act.put,List.setIfInBounds_toArray,List.set_cons_zero,List.set_cons_succ,i64_w,i32_w]
        rfl
      refine pv_ (i:=3) (N:=some 41) (bt_ 6 15) ?_;refine pv_ (i:=4) (N:=some 42) (bt_ 6 31) ?_;refine last_ (i:=5) (N:=none) (bt_ 6 63) rfl rfl (by kernel_rfl) (by decide) (fun K hK=> ?_);refine sh_store k79 w.heap.size (by rfl) 37 (.tmp 42) (.tmp 40) rfl rfl 79 (g:=gb) (n:=out.length) (cap:=c5) j 2 l2 (limF ⟨a2_0,a2_1,a2_2⟩ y) (.agg #[.int .i64 a2_0, .int .i64 a2_1, .int .i64 a2_2]) [.int .i64 a2_0, .int .i64 a2_1, .int .i64 a2_2] (shCells y) (fun _=>True) (fun _=>False) rfl rfl rfl (by kernel_rfl) (by intro q hq;simp only [List.mem_cons,List.not_mem_nil,or_false] at hq;rcases hq with rfl|rfl|rfl<;>rfl) (Kd.R_below (Kd.R_below HO.out (below_drew (Below.refl _ _))) hb) HJ0.out HJ1.out rfl (fun j' u hu=>(hb.cell (p:=⟨gb,j.toNat*12+j',none⟩) HGL2.out).trans (HCS2.out j' u hu)) (by show 2+3≤12;omega) (k79_mkM _ _ _ (limF ⟨a2_0,a2_1,a2_2⟩ y)) (fun _ h=>h.elim) ?_;intro w10 ho hg;have HO10:=Aside0.mk ho;have BK10:=am_ (blk_put_other (blk_below (blk_drew BK2.out) hb) hg (fun e=>NE2.out (by rw [e];rfl)));have HB10:=am_ (below_put (below_step (below_drew HB.out) hb) (below_size (below_step (below_drew HB.out) hb)) hg HGB.out);clear ho hg hb;have c10_0:=zz_ BK10 0;refine hK.out _ _ ?_;clear hK K;refine done_ (by kernel_rfl) ?_;go_wp2_with fail
      go_ret2
      refine ⟨_,rfl, ?_,HB10.out⟩;exact HO10.out
def vecByF (op:Int→Int→Int):List S37→Int→Int→Int→Int×Int×Int
 |[],a,b,d=>(a,b,d)
 |v::l,a,b,d=>vecByF op l (op a v.f0) (op b v.f1) (op d v.f2)
theorem vecByF_snoc (op:Int→Int→Int) (v:S37): ∀(l:List S37) (a b d:Int),vecByF op (l++ [v]) a b d=(op (vecByF op l a b d).1 v.f0,op (vecByF op l a b d).2.1 v.f1,op (vecByF op l a b d).2.2 v.f2)
 |[],_,_,_=>rfl
 |_::l,_,_,_=>vecByF_snoc op v l _ _ _
theorem vecByF_take (op:Int→Int→Int) (l:List S37) (a b d:Int) (i:Nat) (h:i<l.length):vecByF op (l.take (i+1)) a b d=(op (vecByF op (l.take i) a b d).1 (rd_T37 l i).f0,op (vecByF op (l.take i) a b d).2.1 (rd_T37 l i).f1,op (vecByF op (l.take i) a b d).2.2 (rd_T37 l i).f2):=by
 have e:rd_T37 l i=l[i]:=by simp [rd_T37,h]
 rw [List.take_succ_eq_append_getElem h,vecByF_snoc,e]
set_option maxHeartbeats 1000000 in
set_option maxRecDepth 100000 in
theorem vecBy_calls (g:Nat) (op:Int→Int→Int) (eg: ∀args w,(callFunc g args).run Try.prog w= .ok (.enter g args) w) (hop: ∀x y W,Calls Try.prog g #[.int .i64 x, .int .i64 y] W fun e w'=>e= .returned (.int .i64 (op x y))∧w'=W)
    (A:Option Addr) (c:Nat) (l:List S37) (a b d:Int) (w:World) (hr0:Kd.C k37 w A l.length l) (hc0:l.length≤c) (hm:l.length≤maxLen):
    Calls Try.prog 145 #[.func (.func g) #[] #[], .agg #[.int .i64 a, .int .i64 b, .int .i64 d], .slice A l.length c] w fun e w'=>e= .returned (.agg #[.int .i64 (vecByF op l a b d).1, .int .i64 (vecByF op l a b d).2.1, .int .i64 (vecByF op l a b d).2.2])∧Below w.heap.size w w':=by
  have hu37:=Try.underlying37;have HR0:=Aside0.mk hr0;have HOP:=Aside0.mk hop;have HEG:=Aside0.mk eg;have HBT:=am_ (vecByF_take op l a b d);clear hr0 hop eg;unfold maxLen at hm;go_enter Try.func145,Try.ntmps145;go_wp2
  go_loopg [11] l.length (fun kq s11 wr=> ∃i:Nat,i≤l.length∧l.length - i≤kq∧s11= .int .i64 i∧Aside0 (Below w.heap.size w wr)∧Aside0 (wr.heap[w.heap.size]?=some (.cells #[.int .i64 (vecByF op (l.take i) a b d).1, .int .i64 (vecByF op (l.take i) a b d).2.1, .int .i64 (vecByF op (l.take i) a b d).2.2] 37 (0,0)))∧Aside0 (wr.heap[w.heap.size+1]?=some (.cells #[.int .i64 0, .int .i64 0, .int .i64 0] 37 (0,0))))
  case atStart=>
    exact ⟨0,by omega,by omega,rfl,⟨below_alloc (below_alloc (Below.refl _ _) _) _⟩,⟨blk_alloc (blk_new _ _) _⟩,⟨by have:=blk_new (w.alloc (.cells #[.int .i64 a, .int .i64 b, .int .i64 d] 37)) (.cells #[.int .i64 0, .int .i64 0, .int .i64 0] 37);simpa using this⟩⟩
  case round=>
    obtain ⟨i,hi,hg,rfl,HB,HF,HZ⟩:=hrel;generalize hq:vecByF op (l.take i) a b d=q at HF;have HQ:=Aside0.mk hq;clear hq;by_cases hlt:i<l.length;rotate_left
    · obtain rfl : i = l.length := by omega
      have hq:q=vecByF op l a b d:=HQ.out.symm.trans (by rw [List.take_length])
      subst hq
      have HQ':=HQ
      clear HQ HBT
      obtain ⟨f0,f1,f2⟩:=xz3_ HF
      obtain ⟨g0,g1,g2⟩:=xz3_ HZ
      obtain ⟨_,_,_⟩:=ff3_ HZ
      have hs1:w.heap.size+1<wr.heap.size:=blk_lt HZ.out
      go_wp2
      refine bodyPost_ret (results_cell_row rfl _ _ (w.heap.size+1) 37 #[.int .i64 (vecByF op l a b d).1, .int .i64 (vecByF op l a b d).2.1, .int .i64 (vecByF op l a b d).2.2] (0,0) _ rfl (blk_put (blk_put (blk_put HZ.out 0 _ rfl) 1 _ rfl) 2 _ rfl) Try.underlying37 rfl (by kernel_rfl)) rfl ?_
      exact ⟨rfl,below_set (below_set (below_set HB.out (Nat.le_succ _)) (Nat.le_succ _)) (Nat.le_succ _)⟩


    have hltz:(i:Int)<(l.length:Int):=by omega
    obtain ⟨ad,e1,h0,h1,h2⟩:=at_T37 HR0.out (i:Int) (by omega) (by omega);cases e1;simp only [Int.toNat_natCast] at h0 h1 h2;replace h0:=zx_ HB h0;replace h1:=zx_ HB h1;replace h2:=zx_ HB h2;have hsz:w.heap.size+1<wr.heap.size:=blk_lt HZ.out;go_wp2
    obtain ⟨W1,hW1⟩: ∃W1,W1=(wr.alloc (.cells #[.int .i64 (rd_T37 l i).f0, .int .i64 (rd_T37 l i).f1, .int .i64 (rd_T37 l i).f2] 37)).drew:=⟨_,rfl⟩;have hF1:W1.heap[w.heap.size]?=some (.cells #[.int .i64 q.1, .int .i64 q.2.1, .int .i64 q.2.2] 37 (0,0)):=by rw [hW1];exact blk_alloc HF.out _
    have hZ1:W1.heap[w.heap.size+1]?=some (.cells #[.int .i64 0, .int .i64 0, .int .i64 0] 37 (0,0)):=by rw [hW1];exact blk_alloc HZ.out _
    have hV1:W1.heap[wr.heap.size]?=some (.cells #[.int .i64 (rd_T37 l i).f0, .int .i64 (rd_T37 l i).f1, .int .i64 (rd_T37 l i).f2] 37 (0,0)):=by rw [hW1];exact blk_new _ _
    have hB1:Below w.heap.size w W1:=by rw [hW1];exact below_drew (below_alloc HB.out _)
    refine wp_region_still_tail 19 (by kernel_rfl) (by kernel_rfl) ?_
    change wpStill _ _ (World.drew _) _ _ _
    rw [←hW1];simp only [List.take_succ_cons,List.take_zero,List.drop_succ_cons,List.drop_zero];have HV1:=Aside0.mk hV1;have HF1:=Aside0.mk hF1;have HZ1:=Aside0.mk hZ1;have HB1:=Aside0.mk hB1;have f0:=(blk_cell hF1 0).trans rfl;have f1:=(blk_cell hF1 1).trans rfl;have f2:=(blk_cell hF1 2).trans rfl;have g0:=(blk_cell hV1 0).trans rfl;have g1:=(blk_cell hV1 1).trans rfl;have g2:=(blk_cell hV1 2).trans rfl;have HW1:=Aside0.mk hW1;clear hW1 hF1 hZ1 hV1 hB1;have eg:=HEG.out
    repeat still_step
    still_call (HOP.out _ _ _)
    repeat still_step
    still_call (HOP.out _ _ _)
    repeat still_step
    still_call (HOP.out _ _ _)
    repeat still_step
    refine wpStill_nil ?_
    change wpList _ _ _ _ _ (World.drew _)
    rw [←HW1.out];obtain ⟨_,_,_⟩:=ff3_ HF1;have hs1:w.heap.size<W1.heap.size:=blk_lt HF1.out;go_wp2
    have hb:=HBT.out i hlt;rw [HQ.out] at hb;have HH:=Aside0.mk hb;clear hb;go_roundg (l.length - (i+1))
    case measure=>omega
    case rel=>
      refine ⟨i+1,by omega,by omega,by go_num,⟨below_set (below_set (below_set HB1.out (Nat.le_refl _)) (Nat.le_refl _)) (Nat.le_refl _)⟩,⟨?_⟩,⟨blk_far (blk_far (blk_far HZ1.out (by simp) _) (by simp) _) (by simp) _⟩⟩;rw [HH.out];exact blk_put (blk_put (blk_put HF1.out 0 _ rfl) 1 _ rfl) 2 _ rfl
theorem vecAdd1_calls (x y:Int) (W:World):Calls Try.prog 146 #[.int .i64 x, .int .i64 y] W fun e w'=>e= .returned (.int .i64 (wrap64 (x+y)))∧w'=W:=by
 go_enter Try.func146,Try.ntmps146
 go_wp2
 go_ret
 exact ⟨rfl,rfl⟩
def vec_Add.f (l0:List (S37)):Option (Int×Int×Int):=some (vecByF (fun x y=>wrap64 (x+y)) l0 0 0 0)
set_option maxHeartbeats 1000000 in
set_option maxRecDepth 100000 in
theorem vec_Add.calls (A0:Option Addr) (c0:Nat) (l0:List (S37)) (r1:Int) (r2:Int) (r3:Int) (w:World) (hr0:Kd.C k37 w A0 l0.length l0) (hc0:l0.length≤c0) (h:vec_Add.f l0=some (r1,r2,r3)):
  Calls Try.prog 115 #[.slice A0 l0.length c0] w fun e w'=>e= .returned (.agg #[.int .i64 r1, .int .i64 r2, .int .i64 r3])∧Below w.heap.size w w':=by
 have hu37:=Try.underlying37;have hm:l0.length≤maxLen:=hr0.2.1;have HC:=am_ (vecBy_calls 146 (fun x y=>wrap64 (x+y)) (enters_of Try.func146 (by kernel_rfl) rfl) vecAdd1_calls A0 c0 l0 0 0 0 (w.alloc (.cells #[.int .i64 0, .int .i64 0, .int .i64 0] 37)) (Kd.C_below hr0 (below_alloc (Below.refl _ _) _)) hc0 hm);have HH:=Aside0.mk h;clear hr0 h;go_enter Try.func115,Try.ntmps115;go_wp2_with fail
 refine HC.out.mono ?_;rintro e w1 ⟨rfl,hb⟩;have h:=Option.some.inj (show some (vecByF (fun x y=>wrap64 (x+y)) l0 0 0 0)=some (r1,r2,r3) from HH.out);rw [h];have hZ:=blk_below (blk_new w (.cells #[.int .i64 0, .int .i64 0, .int .i64 0] 37)) hb;have HB:=Aside0.mk hb;have HZ:=Aside0.mk hZ;clear h hb hZ;obtain ⟨_,_,_⟩:=xz3_ HZ;obtain ⟨_,_,_⟩:=ff3_ HZ;have hs1:w.heap.size<w1.heap.size:=blk_lt HZ.out;go_wp2
 refine bodyPost_ret (results_cell_row rfl _ _ w.heap.size 37 #[.int .i64 r1, .int .i64 r2, .int .i64 r3] (0,0) _ rfl (blk_put (blk_put (blk_put HZ.out 0 _ rfl) 1 _ rfl) 2 _ rfl) Try.underlying37 rfl (by kernel_rfl)) rfl ?_;exact ⟨rfl,below_set (below_set (below_set (below_step (below_alloc (Below.refl _ _) _) HB.out) (Nat.le_refl _)) (Nat.le_refl _)) (Nat.le_refl _)⟩


def tree_Up.l0:Nat→List (S79)→List ByteArray→Int→Option (List ByteArray)
 |0,_,_,_=>none
 |k+1,x0,x5,x6=>if x6≥0 then (if (x5.length:Int)≤(x0.length:Int) then (if 0≤x6 then (if x6<(x0.length:Int) then (if x5.length<8796093022208 then ((tree_Find.f x0 ((rd_T79 x0 x6).f1)).bind fun t7=>(tree_Up.l0 k x0 (x5++ [(rd_T79 x0 x6).f0]) t7)) else (none)) else (none)) else (none)) else (some x5)) else (some x5)
def tree_Up.f (k:Nat) (l0:List (S79)) (a1:ByteArray):Option (List ByteArray):=(tree_Find.f l0 a1).bind fun t1=>(tree_Up.l0 k l0 ([]:List ByteArray) t1)
theorem tree_Up.mono_l: ∀k,(∀y0 y1 y2,LeO (tree_Up.l0 k y0 y1 y2) (tree_Up.l0 (k+1) y0 y1 y2))
 |0=>fun _ _ _ r h=>by simp [tree_Up.l0] at h
 |k+1=>by
  have ih0:=tree_Up.mono_l k;intro y0 y1 y2;unfold tree_Up.l0
  repeat' with_reducible first|apply ih0|apply LeO.refl|apply LeO.none|apply LeO.ite|refine LeO.bind ?_ fun _=> ?_
theorem tree_Up.mono: ∀a0 a1 k,LeO (tree_Up.f k a0 a1) (tree_Up.f (k+1) a0 a1):=by
 intro a0 a1 k;have ih0:=tree_Up.mono_l k;unfold tree_Up.f
 repeat' with_reducible first|apply ih0|apply LeO.refl|apply LeO.none|apply LeO.ite|refine LeO.bind ?_ fun _=> ?_
set_option maxHeartbeats 8000000 in
set_option maxRecDepth 100000 in
theorem tree_Up.calls (k:Nat) (A0:Option Addr) (c0:Nat) (l0:List (S79)) (a1:ByteArray) (r:List ByteArray) (w:World) (hr0:Kd.C k79 w A0 l0.length l0) (hc0:l0.length≤c0) (h:tree_Up.f k l0 a1=some r):
  Calls Try.prog 153 #[.slice A0 l0.length c0, .string a1] w fun e w'=> ∃v0_:Value,e= .returned (v0_)∧Kd.R Kd.string 9 w' w.heap.size (fun _=>True) v0_ r∧Below w.heap.size w w':=by
 have HR0:=Aside0.mk hr0;have HC0:=Aside0.mk hc0;clear hr0 hc0;have HB:=am_ (Below.refl w.heap.size w);have H:((tree_Find.f l0 a1).bind fun t1=>(tree_Up.l0 k l0 ([]:List ByteArray) t1))=some r:=h;clear h;replace H:=zbd_ H;obtain ⟨t1,A3,H⟩:=H;try dsimp only at H
 have H':=Aside0.mk H;clear H;go_enter Try.func153,Try.ntmps153;go_wp2_with (first|((with_reducible refine gate_callee (f:=91) rfl ?_);refine gl_ (some 9) Try.func91 #[.slice A0 l0.length c0, .string a1] ?_;(with_reducible refine (tree_Find.calls _ _ l0 a1 t1 _ ?side1 ?side2 A3.out).mono ?_);(case side1=>repeat (first|exact HR0.out|(with_reducible refine Kd.C_alloc ?_ _)|(with_reducible refine Kd.C_drewN ?_ _)|(with_reducible refine Kd.C_drew ?_)));(case side2=>exact HC0.out);rintro e w4 ⟨rfl,hb⟩;refine ⟨_,rfl, ?_⟩;replace HB:=am_ (below_step (zl0_ HB) hb);(try clear hb)))
 go_loopg [5,6] k (fun kq v5 v6 w'=> ∃(x5_1:List ByteArray) (x6_1:Int),v6= .int .i64 x6_1∧Aside0 (tree_Up.l0 kq l0 x5_1 x6_1=some r)∧Aside0 (kq≤k)∧Aside0 (Kd.R Kd.string 9 w' w.heap.size (fun _=>True) v5 x5_1)∧Aside0 (Below w.heap.size w w'))
 case atStart=>exact ⟨(([]:List ByteArray)),(t1),rf_,H',⟨Nat.le_refl _⟩,⟨by first|exact Kd.R_nil _ _ _ _ _|exact Kd.N_nil _ _ _ _ _|exact Kd.V_nil _ _ _ _ _|exact Kd.Q_nil _ _ _ _ _|exact Kd.S_nil _ _ _ _ _⟩,⟨zl0_ HB⟩⟩
 case round=>
  clear H';obtain ⟨x5_1,x6_1,rfl,HA,HK1,HO_5,HB⟩:=hrel
  cases gk with
  |zero=>exact absurd HA.out (by simp [tree_Up.l0])
  |succ k1=>
   have H:=HA.out;clear HA;simp only [tree_Up.l0] at H;by_cases c5:x6_1≥0;rotate_left
   ·rw [if_neg c5] at H;have c5b0:decide (0≤x6_1)=false:=decide_eq_false c5;clear c5;obtain rfl:=Option.some.inj H;go_wp2
    go_ret
    exact ⟨_,er_,zr_ HO_5,zl0_ HB⟩

   rw [if_pos c5] at H;have c5b0:decide (0≤x6_1)=true:=decide_eq_true c5;clear c5;by_cases c6:(x5_1.length:Int)≤(l0.length:Int);rotate_left
   ·rw [if_neg c6] at H;have c6b0:=decide_eq_false c6;have c6b1:decide (x5_1.length≤l0.length)=false:=decide_eq_false (fun h=>c6 (Int.ofNat_le.mpr h));clear c6;obtain rfl:=Option.some.inj H;obtain ⟨Ao14,co14,eo14⟩:=Kd.R_slice HO_5.out;subst eo14;go_wp2
    go_ret
    exact ⟨_,er_,zr_ HO_5,zl0_ HB⟩
   rw [if_pos c6] at H;have c6b0:=decide_eq_true c6;have c6b1:decide (x5_1.length≤l0.length)=true:=decide_eq_true (Int.ofNat_le.mp c6);clear c6;replace H:=zif_ H;obtain ⟨c7,H⟩:=H;replace c7:=decide_eq_true c7;replace H:=zif_ H;obtain ⟨c8,H⟩:=H;replace c8:=decide_eq_true c8;replace H:=zif_ H;obtain ⟨c9,H⟩:=H;have LMc9:=Aside0.mk c9;clear c9;obtain ⟨y3,hy3⟩: ∃y_:List ByteArray,y_=(x5_1++ [(rd_T79 l0 x6_1).f0]):=⟨_,rfl⟩;(first|replace H:=zsb_ hy3 H|rw [←hy3] at H);have Ny3:=Aside0.mk hy3;clear hy3;replace H:=zbd_ H;obtain ⟨t7,A10,H⟩:=H;try dsimp only at H
   have H':=Aside0.mk H;clear H;obtain ⟨Ao11,co11,eo11⟩:=Kd.R_slice HO_5.out;subst eo11;obtain ⟨p2,q2,ad2,e2,hx2_0,hx2_1,hx2_2,hx2_3,hx2_4,hx2_5,hx2_6,hx2_7,hx2_8,hx2_9,hx2_10,hx2_11⟩:=zat_ (at_T79 HR0.out x6_1);cases e2;replace hx2_0:=zx12_ HB hx2_0 hx2_1 hx2_2 hx2_3 hx2_4 hx2_5 hx2_6 hx2_7 hx2_8 hx2_9 hx2_10 hx2_11;clear hx2_1 hx2_2 hx2_3 hx2_4 hx2_5 hx2_6 hx2_7 hx2_8 hx2_9 hx2_10 hx2_11;obtain ⟨hx2_0,hx2_1,hx2_2,hx2_3,hx2_4,hx2_5,hx2_6,hx2_7,hx2_8,hx2_9,hx2_10,hx2_11⟩:=hx2_0
   go_wp2_with (first|((with_reducible refine gate_builtin (b:= .append) (xs:=#[.tmp 26, .tmp 32]) rfl ?_);(try (refine gate_guard (by rfl) ?_;dsimp only));at_builtin;refine Kd.R_append Kd.string (w0:=w) w.heap.size rfl (.tmp 26) (.tmp 32) 85 9 (.string ⟨#[]⟩) 16 rfl Try.underlying85 info9 rfl (by decide) (by omega) (.slice Ao11 x5_1.length co11) x5_1 ((rd_T79 l0 x6_1).f0) [.string ((rd_T79 l0 x6_1).f0)] (fun _=>True) (fun _=>False) rfl rfl ?aP (fun _ hk=>hk.elim) ?aF ?aO ?aB ?aS ?aL ?_;(case aP=>exact rfl);(case aB=>exact (zl0_ HB));(case aF=>exact (fun _ _=>trivial));(case aO=>exact (zr_ HO_5));(case aS=>exact (below_size (zl0_ HB)));(case aL=>have:=LMc9.out;omega);intro v4 w12 ho hb hg hat;rw [←Ny3.out] at ho;have n0_:=am_ (hb);have n1_:=am_ (ho);clear HB;clear HO_5;have HB:=n0_;have HO5:=n1_;clear n0_ n1_;clear ho hb hg hat;have p6:0≤(x6_1:Int):=of_decide_eq_true zq_;have q6:x6_1<(l0.length:Int):=of_decide_eq_true zq_;obtain ⟨ad6,e6,hx6_0,hx6_1,hx6_2,hx6_3,hx6_4,hx6_5,hx6_6,hx6_7,hx6_8,hx6_9,hx6_10,hx6_11⟩:=at_T79 HR0.out x6_1 p6 q6;obtain rfl:ad2=ad6:=(by injection e6);replace hx6_0:=zx12_ HB hx6_0 hx6_1 hx6_2 hx6_3 hx6_4 hx6_5 hx6_6 hx6_7 hx6_8 hx6_9 hx6_10 hx6_11;clear hx6_1 hx6_2 hx6_3 hx6_4 hx6_5 hx6_6 hx6_7 hx6_8 hx6_9 hx6_10 hx6_11;obtain ⟨hx6_0,hx6_1,hx6_2,hx6_3,hx6_4,hx6_5,hx6_6,hx6_7,hx6_8,hx6_9,hx6_10,hx6_11⟩:=hx6_0;replace p6:=eq_true p6;replace q6:=eq_true q6)|((with_reducible refine gate_callee (f:=91) rfl ?_);refine gl_ (some 25) Try.func91 #[.slice (some ad2) l0.length c0, .string ((rd_T79 l0 x6_1).f1)] ?_;(with_reducible refine (tree_Find.calls _ _ l0 ((rd_T79 l0 x6_1).f1) t7 _ ?side1 ?side2 A10.out).mono ?_);(case side1=>exact zc_ (Kd.C_below HR0.out HB.out));(case side2=>exact HC0.out);rintro e w13 ⟨rfl,hb⟩;refine ⟨_,rfl, ?_⟩;replace HO5:=ob_ HO5 hb;replace HB:=am_ (below_step (zl0_ HB) hb);(try clear hb)))
   go_roundg k1
   case measure=>have:=HK1.out;omega
   case rel=>exact ⟨(y3),(t7),rf_,H',⟨by have:=HK1.out;omega⟩,am_ (zr_ HO5),⟨zl0_ HB⟩⟩
def slices_Index_string_string.l0:Nat→List ByteArray→ByteArray→Int→Int→Option (Int)
 |0,_,_,_,_=>none
 |k+1,x0,x1,x7,x8=>if x8<x7 then (if 0≤x8 then (if x8<(x0.length:Int) then (if x1.toList=(rdOf ByteArray.empty x0 x8).toList then (some x8) else (slices_Index_string_string.l0 k x0 x1 x7 (wrap64 (x8+1)))) else (none)) else (none)) else (some (-1))
def slices_Index_string_string.f (k:Nat) (l0:List ByteArray) (a1:ByteArray):Option (Int):=slices_Index_string_string.l0 k l0 a1 (l0.length:Int) 0
theorem slices_Index_string_string.mono_l: ∀k,(∀y0 y1 y2 y3,LeO (slices_Index_string_string.l0 k y0 y1 y2 y3) (slices_Index_string_string.l0 (k+1) y0 y1 y2 y3))
 |0=>fun _ _ _ _ r h=>by simp [slices_Index_string_string.l0] at h
 |k+1=>by
  have ih0:=slices_Index_string_string.mono_l k;intro y0 y1 y2 y3;unfold slices_Index_string_string.l0
  repeat' with_reducible first|apply ih0|apply LeO.refl|apply LeO.none|apply LeO.ite|refine LeO.bind ?_ fun _=> ?_
theorem slices_Index_string_string.mono: ∀a0 a1 k,LeO (slices_Index_string_string.f k a0 a1) (slices_Index_string_string.f (k+1) a0 a1):=by
 intro a0 a1 k;have ih0:=slices_Index_string_string.mono_l k;unfold slices_Index_string_string.f
 repeat' with_reducible first|apply ih0|apply LeO.refl|apply LeO.none|apply LeO.ite|refine LeO.bind ?_ fun _=> ?_
set_option maxHeartbeats 8000000 in
set_option maxRecDepth 100000 in
theorem slices_Index_string_string.calls (k:Nat) (A0:Option Addr) (c0:Nat) (l0:List ByteArray) (a1:ByteArray) (r:Int) (w:World) (hr0:Kd.C Kd.string w A0 l0.length l0) (hc0:l0.length≤c0) (h:slices_Index_string_string.f k l0 a1=some r):
  Calls Try.prog 174 #[.slice A0 l0.length c0, .string a1] w fun e w'=>e= .returned (.int .i64 r)∧Drawn0 w w':=by
 have HR0:=Aside0.mk hr0;have HC0:=Aside0.mk hc0;clear hr0 hc0;have H:(slices_Index_string_string.l0 k l0 a1 (l0.length:Int) 0)=some r:=h;clear h;have H':=Aside0.mk H;clear H;go_enter Try.func174,Try.ntmps174;go_wp2
 go_loopg [8] k (fun kq v8 w'=> ∃(x8_1:Int),v8= .int .i64 x8_1∧Aside0 (slices_Index_string_string.l0 kq l0 a1 (l0.length:Int) x8_1=some r)∧Aside0 (kq≤k)∧Drawn0 w w')
 case atStart=>exact ⟨(0),rf_,H',⟨Nat.le_refl _⟩,by repeat (first|exact Drawn0.refl _|apply Drawn0.step)⟩
 case round=>
  clear H';obtain ⟨x8_1,rfl,HA,HK1,⟨m1,rfl⟩⟩:=hrel
  cases gk with
  |zero=>exact absurd HA.out (by simp [slices_Index_string_string.l0])
  |succ k1=>
   have H:=HA.out;clear HA;simp only [slices_Index_string_string.l0] at H;by_cases c3:x8_1<(l0.length:Int);rotate_left
   ·rw [if_neg c3] at H;have c3b0:=decide_eq_false c3;clear c3;obtain rfl:=Option.some.inj H;go_wp2
    go_ret
    exact ⟨by first|rfl|(simp;done)|(simp [*];done),by repeat (first|exact Drawn0.refl _|apply Drawn0.step)⟩

   rw [if_pos c3] at H;have c3b0:=decide_eq_true c3;clear c3;replace H:=zif_ H;obtain ⟨c4,H⟩:=H;replace c4:=decide_eq_true c4;replace H:=zif_ H;obtain ⟨c5,H⟩:=H;replace c5:=decide_eq_true c5;by_cases c6:a1.toList=(rdOf ByteArray.empty l0 x8_1).toList
   ·rw [if_pos c6] at H;have c6b0:=beq_iff_eq.mpr c6;have c6b1:=bne_eq_false_iff_eq.mpr c6;clear c6;obtain rfl:=Option.some.inj H;obtain ⟨p1,q1,ad1,e1,hx1_0⟩:=zat_ (Kd.at_string HR0.out x8_1);cases e1;go_wp2
    go_ret
    exact ⟨by first|rfl|(simp;done)|(simp [*];done),by repeat (first|exact Drawn0.refl _|apply Drawn0.step)⟩
   rw [if_neg c6] at H;have c6b0:=beq_eq_false_iff_ne.mpr c6;have c6b1:=bne_iff_ne.mpr c6;have H':=Aside0.mk H;clear H;obtain ⟨p1,q1,ad1,e1,hx1_0⟩:=zat_ (Kd.at_string HR0.out x8_1);cases e1;go_wp2
   go_roundg k1
   case measure=>have:=HK1.out;omega
   case rel=>exact ⟨(wrap64 (x8_1+1)),rf_,H',⟨by have:=HK1.out;omega⟩,by repeat (first|exact Drawn0.refl _|apply Drawn0.step)⟩
def slices_Contains_string_string.f (k:Nat) (l0:List ByteArray) (a1:ByteArray):Option (Bool):=(slices_Index_string_string.f k l0 a1).bind fun t1=>(some (decide (t1≥0)))
theorem slices_Contains_string_string.mono: ∀a0 a1 k,LeO (slices_Contains_string_string.f k a0 a1) (slices_Contains_string_string.f (k+1) a0 a1):=by
 intro a0 a1 k;unfold slices_Contains_string_string.f
 repeat' with_reducible first|apply slices_Index_string_string.mono|apply LeO.refl|apply LeO.none|apply LeO.ite|refine LeO.bind ?_ fun _=> ?_
set_option maxHeartbeats 8000000 in
set_option maxRecDepth 100000 in
theorem slices_Contains_string_string.calls (k:Nat) (A0:Option Addr) (c0:Nat) (l0:List ByteArray) (a1:ByteArray) (r:Bool) (w:World) (hr0:Kd.C Kd.string w A0 l0.length l0) (hc0:l0.length≤c0) (h:slices_Contains_string_string.f k l0 a1=some r):
  Calls Try.prog 160 #[.slice A0 l0.length c0, .string a1] w fun e w'=>e= .returned (.bool r)∧Drawn0 w w':=by
 have HR0:=Aside0.mk hr0;have HC0:=Aside0.mk hc0;clear hr0 hc0;have H:((slices_Index_string_string.f k l0 a1).bind fun t1=>(some (decide (t1≥0))))=some r:=h;clear h;replace H:=zbd_ H;obtain ⟨t1,A3,H⟩:=H;try dsimp only at H
 obtain rfl:=Option.some.inj H;go_enter Try.func160,Try.ntmps160;go_wp2_with (first|((with_reducible refine gate_callee (f:=174) rfl ?_);refine gl_ (some 7) Try.func174 #[.slice A0 l0.length c0, .string a1] ?_;(with_reducible refine (slices_Index_string_string.calls k _ _ l0 a1 t1 _ ?side1 ?side2 A3.out).mono ?_);(case side1=>repeat (first|exact HR0.out|(with_reducible refine Kd.C_alloc ?_ _)|(with_reducible refine Kd.C_drewN ?_ _)|(with_reducible refine Kd.C_drew ?_)));(case side2=>exact HC0.out);rintro e w' ⟨rfl,⟨nd,rfl⟩⟩;refine ⟨_,rfl, ?_⟩))
 go_ret
 exact ⟨by first|rfl|(simp;done)|(simp [*];done),by repeat (first|exact Drawn0.refl _|apply Drawn0.step)⟩

end Go.Proofs.Ytahidkjncljkaaa.Print

namespace Go.Proofs.Ytahidkjncljkaaa.Print
open Go.RowKit Go.Proofs.YtahidkjncljkaaaW.PrintWords Go.Proofs.YtahidkjncljkaaaW.PrintLast Go.Proofs.YtahidkjncljkaaaW.PrintMore
theorem at_str {w:World} {A:Option Addr} {n:Nat} {xs:List ByteArray} (h:Kd.C Kd.string w A n xs) (i:Int) (h0:0≤i) (h1:i<n): ∃ad,A=some ad∧w.cell? (ad.add i.toNat)=some (.string (rdOf ByteArray.empty xs i)):=by
 obtain ⟨ad,c,e,_,hK,hc⟩:=Kd.C_get h ByteArray.empty i h0 h1;have hc0: ∀j u,c[j]?=some u→w.cell? (ad.add (i.toNat*1+j))=some u:=hc;obtain rfl:c=[.string (xs.getD i.toNat ByteArray.empty)]:=hK;have:=hc0 0 _ rfl
 rw [Nat.mul_one,Nat.add_zero] at this;exact ⟨ad,e,this⟩
end Go.Proofs.Ytahidkjncljkaaa.Print

namespace Go.Proofs.Ytahidkjncljkaaa.Print
open Go.RowKit Go.Proofs.YtahidkjncljkaaaW.PrintWords Go.Proofs.YtahidkjncljkaaaW.PrintLast Go.Proofs.YtahidkjncljkaaaW.PrintMore
attribute [local go_sem] max2_int min2_int max_two min_two max_three min_three max_four min_four

set_option maxHeartbeats 8000000 in
set_option maxRecDepth 100000 in
theorem shapeShift_calls (g:Nat) (lb:Array Value) (op:S37→S37) (gS:Nat) (ob:Obj) (base bu:Nat) (v:Value) (out r:List S79) (j0:Int) (Au:Option Addr) (cu:Nat) (us:List ByteArray) (w:World)
    (eg: ∀args w,(callFunc g args).run Try.prog w= .ok (.enter g args) w) (hr:Kd.R k79 79 w base (fun _=>True) v out) (hbase:base≤w.heap.size) (hs:w.heap[gS]?=some ob) (hne:some gS≠v.ownBlock)
    (hu:Kd.R Kd.string 9 w bu (fun _=>True) (.slice Au us.length cu) us)
    (hp: ∀W' u,W'.heap[gS]?=some ob→Calls Try.prog g (#[.agg #[.int .i64 u.f0, .int .i64 u.f1, .int .i64 u.f2]]++lb) W' fun e w'=>e= .returned (.agg #[.int .i64 (op u).f0, .int .i64 (op u).f1, .int .i64 (op u).f2])∧Below W'.heap.size W' w')
    (h:shiftF op us out=some r):
    Calls Try.prog 161 #[.agg #[v, .int .i64 j0], .slice Au us.length cu, .func (.func g) #[] lb] w fun e w'=>e= .returned (.tuple #[])∧Kd.R k79 79 w' base (fun _=>True) v r∧Turned w w' base v:=by
  have hu197:=Try.underlying197
  have hu195:=Try.underlying195
  have hu79:=Try.underlying79
  have hu37:=Try.underlying37
  have hm:us.length≤9223372036854775807:=(Kd.R_reads' hu).2.2.2.1
  have hm2:out.length≤9223372036854775807:=by obtain ⟨A,c,rfl,_,hh⟩:=Kd.R_reads hr;exact hh.2.1
  have HO:=Aside0.mk hr
  have HU:=Aside0.mk hu
  have HP:=Aside0.mk hp
  have HS:=Aside0.mk hs
  have HF:=Aside0.mk h
  have HNE:=Aside0.mk hne
  have HB:=am_ (Below.refl w.heap.size w)
  have HBS:=Aside0.mk hbase
  have HLT:=am_ (Kd.R_lt hr)
  obtain ⟨A5,c5,rfl⟩: ∃A5 c5,v= .slice A5 out.length c5:=Kd.R_slice hr
  clear hr hu hp hs hne h hbase
  obtain ⟨n,hn⟩: ∃n,n=out.length:=⟨_,rfl⟩
  rw [←hn] at HO HNE HLT hm2 ⊢
  have HN:=Aside0.mk hn.symm
  clear hn
  go_enter Try.func161,Try.ntmps161
  go_wp2_with (first|((with_reducible refine gate_dst (N:=3) rfl ?_);refine bx_ (N:=3) (cs:=#[.slice A5 n c5, .int .i64 j0]) (t:=197) ?_;intro gb3 hg w1 hbox hb;replace HO:=am_ (Kd.R_below HO.out hb);replace HU:=am_ (Kd.R_below HU.out hb);replace HS:=am_ (blk_below HS.out hb);have BK3:=am_ (hbox);have GE3:=am_ ((by rw [hg];exact below_size HB.out:w.heap.size≤gb3));replace HB:=am_ (below_step HB.out hb);have EQ3:=am_ (hg);clear hb hbox hg;have cgb3_0:=(blk_cell BK3.out 0).trans rfl;have cgb3_1:=(blk_cell BK3.out 1).trans rfl))
  have NE3:=am_ (show some gb3≠(Value.slice A5 n c5).ownBlock from fun e=>by have:=HLT.out _ e.symm;have:=EQ3.out;omega)
  have HT:=am_ (Turned.of_below (base:=base) (v:= .slice A5 n c5) HB.out HBS.out)
  clear HB GE3 EQ3
  go_loopg [7,8,11] us.length (fun kq s7 s8 s11 wr=> ∃(i:Nat) (cur:List S79),i≤us.length∧us.length - i≤kq∧s11= .int .i64 i∧Aside0 (cur.length=n)∧Aside0 (shiftF op (us.drop i) cur=some r)∧Aside0 (Turned w wr base (.slice A5 n c5))∧Aside0 (wr.heap[gb3]?=some (.cells #[.slice A5 n c5, .int .i64 j0] 197 (0,0)))∧Aside0 (wr.heap[gS]?=some ob)∧Aside0 (Kd.R k79 79 wr base (fun _=>True) (.slice A5 n c5) cur)∧Aside0 (Kd.R Kd.string 9 wr bu (fun _=>True) (.slice Au us.length cu) us))
  case atStart=>exact ⟨0,out,by omega,by omega,rfl,HN,HF,HT,BK3,HS,HO,HU⟩
  case round=>
    clear HO BK3 HT HF HS HU HN cgb3_0 cgb3_1
    obtain ⟨i,cur,hi,hg,rfl,HN,HF,HT,BK3,HS,HO,HU⟩:=hrel
    have cgb3_0:=(blk_cell BK3.out 0).trans rfl
    have cgb3_1:=(blk_cell BK3.out 1).trans rfl
    by_cases hlt:i<us.length
    rotate_left
    · obtain rfl : i = us.length := by omega
      have hf:=HF.out
      rw [List.drop_length] at hf
      cases hf
      go_wp2_with fail
      first|go_end0|refine bodyPost_end (results_none rfl _ _ _) rfl ?_
      exact ⟨rfl,HO.out,HT.out⟩


    have hltz:(i:Int)<(us.length:Int):=by omega
    have hdr:us.drop i=us[i]::us.drop (i+1):=List.drop_eq_getElem_cons hlt
    have hf:=HF.out
    rw [hdr] at hf
    unfold shiftF at hf
    obtain ⟨j,hj,hf2⟩:=Option.bind_eq_some_iff.1 hf
    split at hf2
    case isFalse=>cases hf2
    case isTrue hjb=>
    obtain ⟨hj0,hj1⟩:=hjb
    have hst:rdOf ByteArray.empty us (i:Int)=us[i]:=by simp [rdOf,hlt]
    rw [←hst] at hj
    obtain ⟨ad,e1,h0⟩:=at_str (Kd.R_reads' HU.out).2.2 (i:Int) (by omega) (by omega)
    cases e1
    simp only [Int.toNat_natCast] at h0
    obtain ⟨gb,cap,hv5,hgb,hgl⟩:=sh_head HO.out (by omega)
    rw [HN.out] at hv5
    cases hv5
    have hcs:=sh_cells' HO.out HN.out j hj0 (by rw [HN.out] at hj1;exact hj1)
    have HJ:=Aside0.mk hj
    have HF2:=Aside0.mk hf2
    have HJ0:=Aside0.mk hj0
    have HJ1:=am_ (show j<(n:Int) from by rw [HN.out] at hj1;exact hj1)
    generalize hy:rd_T79 cur j=y at hcs
    have HY:=Aside0.mk hy
    have HCS:=Aside0.mk hcs
    have HGB:=Aside0.mk hgb
    have HGL:=Aside0.mk hgl
    have HB0:=am_ (Below.refl wr.heap.size wr)
    have q0:(0≤j)=True:=eq_true hj0
    have q1:(j<(n:Int))=True:=eq_true HJ1.out
    have hB0:Below wr.heap.size wr wr:=Below.refl _ _
    have hBd:Below wr.heap.size wr wr.drew:=below_drew hB0
    clear hf hf2 hdr hst hcs hy hgb hgl hj hj0 hj1 HF
    go_wp2_with fail
    go_region_held3 (fun w'=>w'.cell? ⟨gb3,0,none⟩=some (.slice (some ⟨gb,0,none⟩) n c5)∧Below wr.heap.size wr w')
      (first|(go_keep;done)|(go_split_ands;refine ⟨?_, ?_⟩<;>first|exact below_step (by assumption) hb|exact pw_cell_below hb (by first|assumption|(go_keep;done))))
      (first|(go_at_call 91;refine calls_of_args (args':=#[.slice (some ⟨gb,0,none⟩) cur.length c5, .string (rdOf ByteArray.empty us i)]) (by rw [HN.out]) ((tree_Find.calls _ _ cur _ j _ (Kd.R_reads' (HN.out▸Kd.R_below HO.out (by first|assumption|(go_split_ands;assumption)))).2.2 (by have:=(Kd.R_reads' HO.out).2.1;rw [HN.out];exact this) HJ.out).mono ?_);rintro e w' ⟨rfl,hb⟩))
    rename_i hHeld
    have hBz:Below wr.heap.size wr w':=hHeld.2
    clear hHeld hB0 hBd cgb3_0 cgb3_1 h0
    (try clear hb)
    have HT4:=am_ (HT.out.below_ (Nat.le_trans HBS.out HT.out.below.size) hBz)
    have BK4:=am_ (blk_below BK3.out hBz)
    have HS4:=am_ (blk_below HS.out hBz)
    have HO4:=am_ (Kd.R_below HO.out hBz)
    have HU4:=am_ (Kd.R_below HU.out hBz)
    have HGL4:=am_ (Nat.lt_of_lt_of_le HGL.out hBz.size)
    have HCS4:=am_ (fun j' u hu=>(hBz.cell (p:=⟨gb,j.toNat*12+j',none⟩) HGL.out).trans (HCS.out j' u hu))
    clear hBz HT BK3 HS HO HU HGL HCS
    have k8:w'.cell? ⟨gb,j.toNat*12+8,none⟩=some (.int .i64 y.f4.f0):=HCS4.out 8 _ rfl
    have k9:w'.cell? ⟨gb,j.toNat*12+8+1,none⟩=some (.int .i64 y.f4.f1):=HCS4.out 9 _ rfl
    have k10:w'.cell? ⟨gb,j.toNat*12+8+2,none⟩=some (.int .i64 y.f4.f2):=HCS4.out 10 _ rfl
    go_wp2_with fail
    refine (HP.out w' y.f4 HS4.out).mono ?_
    rintro e w4 ⟨rfl,hb⟩
    have HT5:=am_ (HT4.out.below_ (Nat.le_trans HBS.out HT4.out.below.size) hb)
    have BK5:=am_ (blk_below BK4.out hb)
    have HS5:=am_ (blk_below HS4.out hb)
    have HO5:=am_ (Kd.R_below HO4.out hb)
    have HU5:=am_ (Kd.R_below HU4.out hb)
    have HCS5:=am_ (fun j' u hu=>(hb.cell (p:=⟨gb,j.toNat*12+j',none⟩) HGL4.out).trans (HCS4.out j' u hu))
    clear hb HT4 BK4 HS4 HO4 HU4 HCS4 k8 k9 k10
    clear eg
    go_wp2_with ((with_reducible refine gate_store (t:=37) (p:=32) (v:= .tmp 30) rfl ?_);refine Kd.R_store k79 (w0:=w4) base rfl rfl 37 (.tmp 32) (.tmp 30) rfl 79 (g:=gb) (n:=n) (cap:=c5) (o':=j.toNat*12+8) j 8 cur (shSub op y) (.agg #[.int .i64 (op y.f4).f0, .int .i64 (op y.f4).f1, .int .i64 (op y.f4).f2]) [.int .i64 (op y.f4).f0, .int .i64 (op y.f4).f1, .int .i64 (op y.f4).f2] (shCells y) (fun _=>True) (fun _=>False) rfl rfl rfl rfl ?ct ?c1 HO5.out ?c2 ?c3 rfl HCS5.out (by show 8+3≤12;omega) ?cM (fun _ h=>h.elim) (Below.refl _ _) ?_;(case ct=>kernel_rfl);(case c1=>intro q hq;simp only [List.mem_cons,List.not_mem_nil,or_false] at hq;rcases hq with rfl|rfl|rfl<;>rfl);(case c2=>exact HJ0.out);(case c3=>exact HJ1.out);(case cM=>exact k79_mkM _ _ _ (shSub op y));intro w5 ho hb hg;have HO6:=Aside0.mk ho;have HG6:=Aside0.mk hg;clear ho hb hg)
    have HT6:=am_ (HT5.out.grown_ (Nat.le_trans HBS.out HT5.out.below.size) HGB.out HG6.out)
    have BK6:=am_ (blk_put_other BK5.out HG6.out (fun e=>NE3.out (by rw [e];rfl)))
    have HS6:=am_ (blk_put_other HS5.out HG6.out (fun e=>HNE.out (by rw [e];rfl)))
    have HU6:=am_ (R_turned HU5.out HO5.out (by decide) ((Turned.of_below (Below.refl _ _) (Nat.le_trans HBS.out HT5.out.below.size)).then_grown (Nat.le_trans HBS.out HT5.out.below.size) HGB.out HG6.out))
    go_roundg (us.length - (i+1))
    case measure=>omega
    case rel=>
      refine ⟨i+1,cur.set j.toNat (shSub op y),by omega,by omega,by go_num,⟨by rw [List.length_set];exact HN.out⟩,⟨?_⟩,HT6,BK6,HS6,HO6,HU6⟩
      have:=HF2.out
      rw [HY.out] at this
      exact this
theorem vecSub1_calls (x y:Int) (W:World):Calls Try.prog 175 #[.int .i64 x, .int .i64 y] W fun e w'=>e= .returned (.int .i64 (wrap64 (x - y)))∧w'=W:=by
 go_enter Try.func175,Try.ntmps175
 go_wp2
 go_ret
 exact ⟨rfl,rfl⟩
theorem vec_one_row {W:World} {g:Nat} (x:S37) (h:W.heap[g]?=some (.cells #[.int .i64 x.f0, .int .i64 x.f1, .int .i64 x.f2] 37 (0,0))):Kd.C k37 W (some ⟨g,0,none⟩) [x].length [x]:=by
 refine ⟨rfl,by simp,fun _=>⟨_,rfl,fun j p hj=> ?_⟩⟩
 obtain ⟨rfl,rfl⟩:j=0∧x=p:=by
  cases j with
  |zero=>exact ⟨rfl,by simpa using hj⟩
  |succ j=>simp at hj
 refine ⟨_,rfl,k37_mk W x,fun i u hi=> ?_⟩
 rw [Addr.add_lit,blk_cell h,←hi]
 simp
theorem vec_two_row {W:World} {g:Nat} (x y:S37) (h:W.heap[g]?=some (.cells #[.int .i64 x.f0, .int .i64 x.f1, .int .i64 x.f2, .int .i64 y.f0, .int .i64 y.f1, .int .i64 y.f2] 37 (0,0))):Kd.C k37 W (some ⟨g,0,none⟩) [x,y].length [x,y]:=by
  refine ⟨rfl,by simp,fun _=>⟨_,rfl,fun j p hj=> ?_⟩⟩
  match j,hj with
  | 0, hj =>
    obtain rfl:x=p:=by simpa using hj
    refine ⟨_,rfl,k37_mk W x,fun i u hi=> ?_⟩
    rw [Addr.add_lit,blk_cell h]
    match i,hi with
    |0,hi=>exact hi
    |1,hi=>exact hi
    |2,hi=>exact hi
    |i+3,hi=>simp at hi
  | 1, hj =>
    obtain rfl:y=p:=by simpa using hj
    refine ⟨_,rfl,k37_mk W y,fun i u hi=> ?_⟩
    rw [Addr.add_lit,blk_cell h]
    match i,hi with
    |0,hi=>exact hi
    |1,hi=>exact hi
    |2,hi=>exact hi
    |i+3,hi=>simp at hi
  |j+2,hj=>simp at hj
def vec_Sub.f (a0_0:Int) (a0_1:Int) (a0_2:Int) (a1_0:Int) (a1_1:Int) (a1_2:Int):Option (Int×Int×Int):=some (wrap64 (a0_0 - a1_0),wrap64 (a0_1 - a1_1),wrap64 (a0_2 - a1_2))
set_option maxHeartbeats 1000000 in
set_option maxRecDepth 100000 in
theorem vec_Sub.calls (a0_0:Int) (a0_1:Int) (a0_2:Int) (a1_0:Int) (a1_1:Int) (a1_2:Int) (r1:Int) (r2:Int) (r3:Int) (w:World) (h:vec_Sub.f a0_0 a0_1 a0_2 a1_0 a1_1 a1_2=some (r1,r2,r3)):
  Calls Try.prog 163 #[.agg #[.int .i64 a0_0, .int .i64 a0_1, .int .i64 a0_2], .agg #[.int .i64 a1_0, .int .i64 a1_1, .int .i64 a1_2]] w fun e w'=>e= .returned (.agg #[.int .i64 r1, .int .i64 r2, .int .i64 r3])∧Below w.heap.size w w':=by
 have hu37:=Try.underlying37;have HC:=am_ (fun (W:World) (g:Nat) (hb:W.heap[g]?=some (.cells #[.int .i64 a1_0, .int .i64 a1_1, .int .i64 a1_2] 37 (0,0)))=>vecBy_calls 175 (fun x y=>wrap64 (x - y)) (enters_of Try.func175 (by kernel_rfl) rfl) vecSub1_calls (some ⟨g,0,none⟩) 1 [⟨a1_0,a1_1,a1_2⟩] a0_0 a0_1 a0_2 W (vec_one_row ⟨a1_0,a1_1,a1_2⟩ hb) (Nat.le_refl _) (by simp [maxLen]));have HH:=Aside0.mk h;clear h;go_enter Try.func163,Try.ntmps163;go_wp2_with fail
 obtain ⟨w3,hw3⟩: ∃w3,w3=((w.alloc (.cells #[.int .i64 a0_0, .int .i64 a0_1, .int .i64 a0_2] 37)).alloc (.cells #[.int .i64 a1_0, .int .i64 a1_1, .int .i64 a1_2] 37)).alloc (.cells #[.int .i64 0, .int .i64 0, .int .i64 0] 37):=⟨_,rfl⟩;have hs3:w3.heap.size=w.heap.size+1+1+1:=by rw [hw3];simp
 have hz3:w3.heap[w.heap.size+1+1]?=some (.cells #[.int .i64 0, .int .i64 0, .int .i64 0] 37 (0,0)):=by rw [hw3];have:=blk_new ((w.alloc (.cells #[.int .i64 a0_0, .int .i64 a0_1, .int .i64 a0_2] 37)).alloc (.cells #[.int .i64 a1_0, .int .i64 a1_1, .int .i64 a1_2] 37)) (.cells #[.int .i64 0, .int .i64 0, .int .i64 0] 37);simpa using this
 have hb3:Below w.heap.size w w3:=by rw [hw3];exact below_alloc (below_alloc (below_alloc (Below.refl _ _) _) _) _
 rw [←hw3,←hs3];clear hw3;have hn:=blk_new w3 (.cells #[.int .i64 a1_0, .int .i64 a1_1, .int .i64 a1_2] 37);refine (HC.out _ _ hn).mono ?_;rintro e w1 ⟨rfl,hb⟩;have h:=Option.some.inj (show some (vecByF (fun x y=>wrap64 (x - y)) [⟨a1_0,a1_1,a1_2⟩] a0_0 a0_1 a0_2)=some (r1,r2,r3) from HH.out);rw [h];have HB:=am_ (below_step (below_step hb3 (below_alloc (Below.refl _ _) _)) hb);have HZ:=am_ (blk_below (blk_alloc hz3 (.cells #[.int .i64 a1_0, .int .i64 a1_1, .int .i64 a1_2] 37)) hb);clear h hb hn hb3 hz3 HC;have HS3:=Aside0.mk hs3;clear hs3;obtain ⟨_,_,_⟩:=xz3_ HZ;obtain ⟨_,_,_⟩:=ff3_ HZ;have hs1:w.heap.size+1+1<w1.heap.size:=blk_lt HZ.out;go_wp2
 refine bodyPost_ret (results_cell_row rfl _ _ (w.heap.size+1+1) 37 #[.int .i64 r1, .int .i64 r2, .int .i64 r3] (0,0) _ rfl (blk_put (blk_put (blk_put HZ.out 0 _ rfl) 1 _ rfl) 2 _ rfl) Try.underlying37 rfl (by kernel_rfl)) rfl ?_;have hle:w.heap.size≤w.heap.size+1+1:=by omega
 exact ⟨rfl,below_set (below_set (below_set HB.out hle) hle) hle⟩


def mvAdd (v u:S37):S37:=⟨((vec_Add.f [u,v]).getD (0,0,0)).1,((vec_Add.f [u,v]).getD (0,0,0)).2.1,((vec_Add.f [u,v]).getD (0,0,0)).2.2⟩
def mvSub (v u:S37):S37:=⟨wrap64 (u.f0 - v.f0),wrap64 (u.f1 - v.f1),wrap64 (u.f2 - v.f2)⟩
set_option maxHeartbeats 1000000 in
set_option maxRecDepth 100000 in
theorem shMove2_calls (W:World) (b:Nat) (v u:S37) (hb:W.heap[b]?=some (.cells #[.int .i64 v.f0, .int .i64 v.f1, .int .i64 v.f2] 37 (0,0))):
  Calls Try.prog 164 #[.agg #[.int .i64 u.f0, .int .i64 u.f1, .int .i64 u.f2], .pointer (some ⟨b,0,none⟩)] W fun e w'=>e= .returned (.agg #[.int .i64 (mvAdd v u).f0, .int .i64 (mvAdd v u).f1, .int .i64 (mvAdd v u).f2])∧Below W.heap.size W w':=by
 have hu37:=Try.underlying37;obtain ⟨⟨q1,q2,q3⟩,hq⟩: ∃q:Int×Int×Int,vec_Add.f [u,v]=some q:=⟨_,rfl⟩;rw [show mvAdd v u=⟨q1,q2,q3⟩ from by unfold mvAdd;rw [hq];rfl];have HQ:=Aside0.mk hq;clear hq;have h0:=(blk_cell hb 0).trans rfl;have h01:=(blk_cell hb 1).trans rfl;have h02:=(blk_cell hb 2).trans rfl;have hl:b<W.heap.size:=blk_lt hb;clear hb;go_enter Try.func164,Try.ntmps164;go_wp2_with fail
 obtain ⟨w3,hw3⟩: ∃w3,w3=(W.alloc (.cells #[.int .i64 u.f0, .int .i64 u.f1, .int .i64 u.f2] 37)).alloc (.cells #[.int .i64 0, .int .i64 0, .int .i64 0] 37):=⟨_,rfl⟩;have hs3:w3.heap.size=W.heap.size+1+1:=by rw [hw3];simp
 have hz3:w3.heap[W.heap.size+1]?=some (.cells #[.int .i64 0, .int .i64 0, .int .i64 0] 37 (0,0)):=by rw [hw3];have:=blk_new (W.alloc (.cells #[.int .i64 u.f0, .int .i64 u.f1, .int .i64 u.f2] 37)) (.cells #[.int .i64 0, .int .i64 0, .int .i64 0] 37);simpa using this
 have hb3:Below W.heap.size W w3:=by rw [hw3];exact below_alloc (below_alloc (Below.refl _ _) _) _
 rw [←hw3,←hs3];clear hw3;have hn:=blk_new w3 (.cells #[.int .i64 u.f0, .int .i64 u.f1, .int .i64 u.f2, .int .i64 v.f0, .int .i64 v.f1, .int .i64 v.f2] 37);refine (vec_Add.calls (some ⟨_,0,none⟩) 2 [u,v] q1 q2 q3 _ (vec_two_row u v hn) (Nat.le_refl _) HQ.out).mono ?_;rintro e w1 ⟨rfl,hb⟩;have HB:=am_ (below_step (below_step hb3 (below_alloc (Below.refl _ _) _)) hb);have HZ:=am_ (blk_below (blk_alloc hz3 (.cells #[.int .i64 u.f0, .int .i64 u.f1, .int .i64 u.f2, .int .i64 v.f0, .int .i64 v.f1, .int .i64 v.f2] 37)) hb);have HS3:=Aside0.mk hs3;clear hb hn hb3 hz3 hs3 h0 h01 h02;obtain ⟨_,_,_⟩:=xz3_ HZ;obtain ⟨_,_,_⟩:=ff3_ HZ;have hs1:W.heap.size+1<w1.heap.size:=blk_lt HZ.out;go_wp2
 refine bodyPost_ret (results_cell_row rfl _ _ (W.heap.size+1) 37 #[.int .i64 q1, .int .i64 q2, .int .i64 q3] (0,0) _ rfl (blk_put (blk_put (blk_put HZ.out 0 _ rfl) 1 _ rfl) 2 _ rfl) Try.underlying37 rfl (by kernel_rfl)) rfl ?_;have hle:W.heap.size≤W.heap.size+1:=by omega
 exact ⟨rfl,below_set (below_set (below_set HB.out hle) hle) hle⟩
set_option maxHeartbeats 1000000 in
set_option maxRecDepth 100000 in
theorem shMove1_calls (W:World) (b:Nat) (v u:S37) (hb:W.heap[b]?=some (.cells #[.int .i64 v.f0, .int .i64 v.f1, .int .i64 v.f2] 37 (0,0))):
  Calls Try.prog 162 #[.agg #[.int .i64 u.f0, .int .i64 u.f1, .int .i64 u.f2], .pointer (some ⟨b,0,none⟩)] W fun e w'=>e= .returned (.agg #[.int .i64 (mvSub v u).f0, .int .i64 (mvSub v u).f1, .int .i64 (mvSub v u).f2])∧Below W.heap.size W w':=by
 have hu37:=Try.underlying37;obtain ⟨⟨q1,q2,q3⟩,hq⟩: ∃q:Int×Int×Int,vec_Sub.f u.f0 u.f1 u.f2 v.f0 v.f1 v.f2=some q:=⟨_,rfl⟩;rw [show mvSub v u=⟨q1,q2,q3⟩ from by have:=Option.some.inj hq;cases this;rfl];have HQ:=Aside0.mk hq;clear hq;have h0:=(blk_cell hb 0).trans rfl;have h01:=(blk_cell hb 1).trans rfl;have h02:=(blk_cell hb 2).trans rfl;have hl:b<W.heap.size:=blk_lt hb;clear hb;go_enter Try.func162,Try.ntmps162;go_wp2_with fail
 obtain ⟨w3,hw3⟩: ∃w3,w3=(W.alloc (.cells #[.int .i64 u.f0, .int .i64 u.f1, .int .i64 u.f2] 37)).alloc (.cells #[.int .i64 0, .int .i64 0, .int .i64 0] 37):=⟨_,rfl⟩;have hs3:w3.heap.size=W.heap.size+1+1:=by rw [hw3];simp
 have hz3:w3.heap[W.heap.size+1]?=some (.cells #[.int .i64 0, .int .i64 0, .int .i64 0] 37 (0,0)):=by rw [hw3];have:=blk_new (W.alloc (.cells #[.int .i64 u.f0, .int .i64 u.f1, .int .i64 u.f2] 37)) (.cells #[.int .i64 0, .int .i64 0, .int .i64 0] 37);simpa using this
 have hb3:Below W.heap.size W w3:=by rw [hw3];exact below_alloc (below_alloc (Below.refl _ _) _) _
 rw [←hw3];clear hw3;refine (vec_Sub.calls u.f0 u.f1 u.f2 v.f0 v.f1 v.f2 q1 q2 q3 _ HQ.out).mono ?_;rintro e w1 ⟨rfl,hb⟩;have HB:=am_ (below_step hb3 hb);have HZ:=am_ (blk_below hz3 hb);have HS3:=Aside0.mk hs3;clear hb hb3 hz3 hs3 h0 h01 h02;obtain ⟨_,_,_⟩:=xz3_ HZ;obtain ⟨_,_,_⟩:=ff3_ HZ;have hs1:W.heap.size+1<w1.heap.size:=blk_lt HZ.out;go_wp2
 refine bodyPost_ret (results_cell_row rfl _ _ (W.heap.size+1) 37 #[.int .i64 q1, .int .i64 q2, .int .i64 q3] (0,0) _ rfl (blk_put (blk_put (blk_put HZ.out 0 _ rfl) 1 _ rfl) 2 _ rfl) Try.underlying37 rfl (by kernel_rfl)) rfl ?_;have hle:W.heap.size≤W.heap.size+1:=by omega
 exact ⟨rfl,below_set (below_set (below_set HB.out hle) hle) hle⟩
def fitsF (k:Nat) (l:List S79) (from_:List ByteArray) (sub:S37):List ByteArray→Option Bool
  |[]=>some true
  | s :: us => (tree_Find.f l s).bind fun j => if 0 ≤ j ∧ j < (l.length : Int) then (slices_Contains_string_string.f k from_ s).bind fun c => if c = true then fitsF k l from_ sub us else
      (vec_Le.f (mvAdd sub (rd_T79 l j).f4).f0 (mvAdd sub (rd_T79 l j).f4).f1 (mvAdd sub (rd_T79 l j).f4).f2 (rd_T79 l j).f2.f0 (rd_T79 l j).f2.f1 (rd_T79 l j).f2.f2).bind fun b=>if b=true then fitsF k l from_ sub us else some false else none
theorem fitsF_mono (l:List S79) (from_:List ByteArray) (sub:S37) (k:Nat): ∀us,LeO (fitsF k l from_ sub us) (fitsF (k+1) l from_ sub us)
  |[]=>LeO.refl _
  | s :: us => by
    unfold fitsF;refine LeO.bind (LeO.refl _) (fun j=>LeO.ite (LeO.bind (slices_Contains_string_string.mono _ _ _) (fun c=>LeO.ite (fitsF_mono l from_ sub k us) (LeO.bind (LeO.refl _) (fun b=>LeO.ite (fitsF_mono l from_ sub k us) (LeO.refl _))))) (LeO.refl _))
def parF (p:ByteArray) (y:S79):S79:=⟨y.f0,p,y.f2,y.f3,y.f4,y.f5⟩
theorem shiftF_len (op:S37→S37): ∀(us:List ByteArray) (l r:List S79),shiftF op us l=some r→r.length=l.length
  |[],l,r,h=>by cases h;rfl
  | s :: us, l, r, h => by
    unfold shiftF at h;obtain ⟨j,_,h1⟩:=Option.bind_eq_some_iff.1 h
    split at h1
    · have := shiftF_len op us _ r h1
      rwa [List.length_set] at this
    cases h1
def shape_Move.f (k:Nat) (l0:List (S79)) (a1:ByteArray) (a2:ByteArray) (a3:Int):Option ((List (S79))×Int):=
 (shape_made.f l0 a1).bind fun p=>(guardF p.1 p.2 a3).bind fun e=>if e≠0 then some ([],e) else (tree_Up.f k l0 a2).bind fun ts=>(shape_change_parent.f p.1 p.2 a2).bind fun q=>if q=false then some ([],2) else
  (slices_Contains_string_string.f k ts a1).bind fun c=>if c=true then some ([],10) else (olderF p.1 p.2).bind fun o=>if o.1≠0 then some ([],o.1) else
   (tree_Up.f k l0 (rd_T79 o.2 p.2).f1).bind fun fs=>(fitsF k l0 fs (rd_T79 o.2 p.2).f4 ts).bind fun b=>if b=false then some ([],12) else
    (shiftF (mvSub (rd_T79 o.2 p.2).f4) fs o.2).bind fun l3=>(shiftF (mvAdd (rd_T79 o.2 p.2).f4) ts l3).bind fun l4=>some (l4.set p.2.toNat (parF a2 (rd_T79 l4 p.2)),0)
theorem shape_Move.mono: ∀a0 a1 a2 a3 k,LeO (shape_Move.f k a0 a1 a2 a3) (shape_Move.f (k+1) a0 a1 a2 a3):=by
 intro a0 a1 a2 a3 k;unfold shape_Move.f
 repeat' first
  |(with_reducible exact tree_Up.mono _ _ _)
  |(with_reducible exact slices_Contains_string_string.mono _ _ _)
  |(with_reducible exact fitsF_mono _ _ _ _ _)
  |(with_reducible exact LeO.refl _)
  |(with_reducible exact LeO.none _)
  |(with_reducible refine LeO.ite ?_ ?_)
  |(with_reducible refine LeO.bind ?_ (fun _=> ?_))
set_option maxHeartbeats 8000000 in
set_option maxRecDepth 100000 in
theorem shape_Move.calls (k:Nat) (A0:Option Addr) (c0:Nat) (l0:List (S79)) (a1:ByteArray) (a2:ByteArray) (a3:Int) (r1:List (S79)) (r2:Int) (w:World) (hr0:Kd.C k79 w A0 l0.length l0) (hc0:l0.length≤c0) (h:shape_Move.f k l0 a1 a2 a3=some (r1,r2)):
    Calls Try.prog 140 #[.slice A0 l0.length c0, .string a1, .string a2, .int .i64 a3] w fun e w'=> ∃v0_:Value,e= .returned (.tuple #[v0_, .int .i64 r2])∧Kd.R k79 79 w' w.heap.size (fun _=>True) v0_ r1∧Below w.heap.size w w':=by
  have hu197:=Try.underlying197;have hu195:=Try.underlying195;have hu79:=Try.underlying79;have hu37:=Try.underlying37;unfold shape_Move.f at h;obtain ⟨⟨out,j⟩,hmd,h1⟩:=Option.bind_eq_some_iff.1 h;clear h;obtain ⟨e0,hgd,h2⟩:=Option.bind_eq_some_iff.1 h1;clear h1;dsimp only at hgd h2;have HR:=Aside0.mk hr0;have HC:=Aside0.mk hc0;have HM:=Aside0.mk hmd;have HG:=Aside0.mk hgd;have HB:=am_ (Below.refl w.heap.size w);have HH:=Aside0.mk h2;clear hr0 hc0 hmd hgd h2;go_enter Try.func140,Try.ntmps140;go_wp2_with fail
  refine (shape_made.calls _ _ _ _ _ _ _ (Kd.C_below HR.out HB.out) HC.out HM.out).mono ?_;rintro e w3 ⟨v0,rfl,ho,hb⟩;have HO:=am_ (Kd.R_lower ho (below_size HB.out));replace HB:=am_ (below_step HB.out hb);clear ho hb;obtain ⟨A5,c5,rfl⟩: ∃A5 c5,v0= .slice A5 out.length c5:=Kd.R_slice HO.out;have HLT:=am_ (Kd.R_lt HO.out);go_wp2_with (first|((with_reducible refine gate_dst (N:=10) rfl ?_);refine bx_ (N:=10) (cs:=#[.slice none 0 0, .int .i64 0]) (t:=197) ?_;intro gb2 hg w4 hbox hb;replace HO:=am_ (Kd.R_below HO.out hb);have BK2:=am_ (hbox);have GE2:=am_ ((by rw [hg];exact below_size HB.out:w.heap.size≤gb2));replace HB:=am_ (below_step HB.out hb);have EQ2:=am_ (hg);clear hb hbox hg)|((with_reducible refine gate_store (t:=197) (p:=10) (v:= .tmp 21) rfl ?_);refine store_all BK2.out 197 (.tmp 10) (.tmp 21) rfl rfl rfl (.agg #[.slice A5 out.length c5, .int .i64 j]) [.slice A5 out.length c5, .int .i64 j] rfl rfl rfl (by kernel_rfl) rfl (by intro q hq;simp only [List.mem_cons,List.not_mem_nil,or_false] at hq;rcases hq with rfl|rfl<;>rfl) ?_;intro w5 hbk hg;replace HO:=am_ (R_put HO.out BK2.out (by decide) hg);replace HB:=am_ (below_put HB.out (below_size HB.out) hg GE2.out);replace BK2:=am_ (hbk);clear hbk hg;obtain ⟨cgb2_0,cgb2_1⟩:=xz2_ BK2))
  have NE2:=am_ (show some gb2≠(Value.slice A5 out.length c5).ownBlock from fun e=>by have:=HLT.out _ e.symm;have:=EQ2.out;omega);refine (shapeGuard_calls _ _ _ out j a3 e0 HO.out HG.out).mono ?_;rintro e w6 ⟨rfl,hb⟩;clear cgb2_0 cgb2_1;replace HO:=am_ (Kd.R_below HO.out hb);replace BK2:=am_ (blk_below BK2.out hb);replace HB:=am_ (below_step HB.out hb);clear hb;obtain ⟨cgb2_0,cgb2_1⟩:=xz2_ BK2;have h2:=HH.out;clear HH;by_cases c1:e0=0;rotate_left
  · rw [if_pos c1] at h2
    cases h2
    have q1:(r2==0)=false:=by simpa using c1
    go_wp2_with fail
    go_ret2
    exact ⟨_,rfl,Kd.R_nil _ _ _ _ _,HB.out⟩


  cases c1;rw [if_neg (by simp)] at h2;obtain ⟨ts,hts,h3⟩:=Option.bind_eq_some_iff.1 h2;obtain ⟨q,hq,h4⟩:=Option.bind_eq_some_iff.1 h3;clear h2 h3;have HTS:=Aside0.mk hts;have HQ:=Aside0.mk hq;have HH:=Aside0.mk h4;clear hts hq h4;go_wp2_with fail
  refine (tree_Up.calls k _ _ _ _ _ _ (Kd.C_below HR.out HB.out) HC.out HTS.out).mono ?_;rintro e w7 ⟨vt,rfl,hot,hb⟩;clear cgb2_0 cgb2_1;have HTO:=am_ (Kd.R_lower hot (below_size HB.out));replace HO:=am_ (Kd.R_below HO.out hb);replace BK2:=am_ (blk_below BK2.out hb);replace HB:=am_ (below_step HB.out hb);clear hb hot;obtain ⟨cgb2_0,cgb2_1⟩:=xz2_ BK2;obtain ⟨At,ct,rfl⟩: ∃At ct,vt= .slice At ts.length ct:=Kd.R_slice HTO.out;go_wp2_with fail
  refine (shape_change_parent.calls _ _ _ _ _ _ _ (Kd.R_reads' HO.out).2.2 (Kd.R_reads' HO.out).2.1 HQ.out).mono ?_;rintro e w8 ⟨rfl,hb⟩;clear cgb2_0 cgb2_1;replace HO:=am_ (Kd.R_below HO.out hb);replace HTO:=am_ (Kd.R_below HTO.out hb);replace BK2:=am_ (blk_below BK2.out hb);replace HB:=am_ (below_step HB.out hb);clear hb;obtain ⟨cgb2_0,cgb2_1⟩:=xz2_ BK2;have h4:=HH.out;clear HH
  cases q with
  | false =>
    rw [if_pos rfl] at h4;cases h4;go_wp2_with fail
    go_ret2
    exact ⟨_,rfl,Kd.R_nil _ _ _ _ _,HB.out⟩
  | true =>
    rw [if_neg (by simp)] at h4;obtain ⟨c,hc,h5⟩:=Option.bind_eq_some_iff.1 h4;have HCO:=Aside0.mk hc;have HH:=Aside0.mk h5;clear hc h4 h5;go_wp2_with fail
    refine (slices_Contains_string_string.calls k _ _ ts _ _ _ (Kd.R_reads' HTO.out).2.2 (Kd.R_reads' HTO.out).2.1 HCO.out).mono ?_;rintro e w9 ⟨rfl,hd⟩;have hb:=hd.below;clear cgb2_0 cgb2_1 hd;replace HO:=am_ (Kd.R_below HO.out hb);replace HTO:=am_ (Kd.R_below HTO.out hb);replace BK2:=am_ (blk_below BK2.out hb);replace HB:=am_ (below_step HB.out hb);clear hb;obtain ⟨cgb2_0,cgb2_1⟩:=xz2_ BK2;have h5:=HH.out;clear HH
    cases c with
    | true =>
      rw [if_pos rfl] at h5;cases h5;go_wp2_with fail
      go_ret2
      exact ⟨_,rfl,Kd.R_nil _ _ _ _ _,HB.out⟩
    | false =>
      rw [if_neg (by simp)] at h5;obtain ⟨⟨e1,l2⟩,hol,h6⟩:=Option.bind_eq_some_iff.1 h5;clear h5;have HOL:=Aside0.mk hol;have HH:=Aside0.mk h6;clear hol h6;go_wp2_with fail
      refine (shapeOlder_calls _ _ _ out l2 j e1 HO.out (below_size HB.out) HOL.out).mono ?_;rintro e w10 ⟨rfl,ho,ht⟩;clear cgb2_0 cgb2_1;replace HTO:=am_ (R_turned HTO.out HO.out (by decide) ht);replace BK2:=am_ (ht.block _ _ BK2.out NE2.out);replace HB:=am_ (HB.out.trans ht.below);replace HO:=am_ (ho);clear ho ht;obtain ⟨cgb2_0,cgb2_1⟩:=xz2_ BK2;have h6:=HH.out;clear HH;by_cases c2:e1=0;rotate_left
      · rw [if_pos c2] at h6
        cases h6
        have q2:(r2==0)=false:=by simpa using c2
        go_wp2_with fail
        go_ret2
        exact ⟨_,rfl,Kd.R_nil _ _ _ _ _,HB.out⟩
      cases c2;rw [if_neg (by simp)] at h6;obtain ⟨hj0,hj1⟩:=older_zero HOL.out;obtain ⟨gb,cap,hv0,hgb,hgl⟩:=sh_head HO.out (by have:=older_len HOL.out;omega);rw [older_len HOL.out] at hv0;cases hv0;have hcs:=sh_cells' HO.out (older_len HOL.out) j hj0 hj1;have HJ0:=Aside0.mk hj0;have HJ1:=Aside0.mk hj1;have HGB:=Aside0.mk hgb;have HGL:=Aside0.mk hgl;have HLEN:=am_ (older_len HOL.out);generalize hy:rd_T79 l2 j=y at hcs h6;have HY:=Aside0.mk hy;obtain ⟨fs,hfs,h7⟩:=Option.bind_eq_some_iff.1 h6;clear h6;have HFS:=Aside0.mk hfs;have HH:=Aside0.mk h7;have HCS:=Aside0.mk hcs;clear hj0 hj1 hgb hgl hy hfs h7 hcs;go_wp2_with fail
      refine (shapeItem_calls _ ⟨gb,0,none⟩ out.length c5 j HJ0.out HJ1.out).mono ?_;rintro e w11 ⟨rfl,hb⟩;clear cgb2_0 cgb2_1;have HCS1:=am_ (fun j' u hu=>(hb.cell (p:=⟨gb,j.toNat*12+j',none⟩) HGL.out).trans (HCS.out j' u hu));have HGL1:=am_ (Nat.lt_of_lt_of_le HGL.out hb.size);replace HO:=am_ (Kd.R_below HO.out hb);replace HTO:=am_ (Kd.R_below HTO.out hb);replace BK2:=am_ (blk_below BK2.out hb);replace HB:=am_ (below_step HB.out hb);clear hb HCS HGL;obtain ⟨cgb2_0,cgb2_1⟩:=xz2_ BK2;have k1:w11.cell? ⟨gb,j.toNat*12+1,none⟩=some (.string y.f1):=HCS1.out 1 _ rfl;go_wp2_with fail
      clear k1;refine (tree_Up.calls k _ _ _ _ _ _ (Kd.C_below HR.out HB.out) HC.out HFS.out).mono ?_;rintro e w12 ⟨vf,rfl,hof,hb⟩;clear cgb2_0 cgb2_1;have HFR:=am_ (Kd.R_lower hof (below_size HB.out));have HCS2:=am_ (fun j' u hu=>(hb.cell (p:=⟨gb,j.toNat*12+j',none⟩) HGL1.out).trans (HCS1.out j' u hu));have HGL2:=am_ (Nat.lt_of_lt_of_le HGL1.out hb.size);replace HO:=am_ (Kd.R_below HO.out hb);replace HTO:=am_ (Kd.R_below HTO.out hb);replace BK2:=am_ (blk_below BK2.out hb);replace HB:=am_ (below_step HB.out hb);clear hb hof HCS1 HGL1;obtain ⟨cgb2_0,cgb2_1⟩:=xz2_ BK2;obtain ⟨Af,cf,rfl⟩: ∃Af cf,vf= .slice Af fs.length cf:=Kd.R_slice HFR.out;go_wp2_with fail
      refine (shapeItem_calls _ ⟨gb,0,none⟩ out.length c5 j HJ0.out HJ1.out).mono ?_;rintro e w13 ⟨rfl,hb⟩;clear cgb2_0 cgb2_1;have HCS3:=am_ (fun j' u hu=>(hb.cell (p:=⟨gb,j.toNat*12+j',none⟩) HGL2.out).trans (HCS2.out j' u hu));have HGL3:=am_ (Nat.lt_of_lt_of_le HGL2.out hb.size);replace HO:=am_ (Kd.R_below HO.out hb);replace HTO:=am_ (Kd.R_below HTO.out hb);replace HFR:=am_ (Kd.R_below HFR.out hb);replace BK2:=am_ (blk_below BK2.out hb);replace HB:=am_ (below_step HB.out hb);clear hb HCS2 HGL2;obtain ⟨cgb2_0,cgb2_1⟩:=xz2_ BK2;have k8:w13.cell? ⟨gb,j.toNat*12+8,none⟩=some (.int .i64 y.f4.f0):=HCS3.out 8 _ rfl;have k9:w13.cell? ⟨gb,j.toNat*12+8+1,none⟩=some (.int .i64 y.f4.f1):=HCS3.out 9 _ rfl;have k10:w13.cell? ⟨gb,j.toNat*12+8+2,none⟩=some (.int .i64 y.f4.f2):=HCS3.out 10 _ rfl;generalize hsb:y.f4=sb at k8 k9 k10;have HSB:=Aside0.mk hsb;have GB2:=am_ (blk_lt BK2.out);have hm:ts.length≤9223372036854775807:=(Kd.R_reads' HTO.out).2.2.2.1;clear hsb;have GLT15:=am_ (show gb<w13.heap.size from HGL3.out)
      go_wp2_with (first|((with_reducible refine gate_dst (N:=15) rfl ?_);refine bx_ (N:=15) (cs:=#[.int .i64 0, .int .i64 0, .int .i64 0]) (t:=37) ?_;intro gb15 hg wa hbox hb;replace HO:=am_ (Kd.R_below HO.out hb);replace HTO:=am_ (Kd.R_below HTO.out hb);replace HFR:=am_ (Kd.R_below HFR.out hb);replace BK2:=am_ (blk_below BK2.out hb);have BK15:=am_ (hbox);have GE15:=am_ ((by rw [hg];exact below_size HB.out:w.heap.size≤gb15));replace HB:=am_ (below_step HB.out hb);have EQ15:=am_ (hg);clear hb hbox hg)|((with_reducible refine gate_store (t:=37) (p:=15) (v:= .tmp 56) rfl ?_);refine store_all BK15.out 37 (.tmp 15) (.tmp 56) rfl rfl rfl (.agg #[.int .i64 sb.f0, .int .i64 sb.f1, .int .i64 sb.f2]) [.int .i64 sb.f0, .int .i64 sb.f1, .int .i64 sb.f2] rfl rfl rfl (by kernel_rfl) rfl (by intro q hq;simp only [List.mem_cons,List.not_mem_nil,or_false] at hq;rcases hq with rfl|rfl|rfl<;>rfl) ?_;intro wb hbk hg;replace HO:=am_ (R_put HO.out BK15.out (by decide) hg);replace HTO:=am_ (R_put HTO.out BK15.out (by decide) hg);replace HFR:=am_ (R_put HFR.out BK15.out (by decide) hg);replace BK2:=am_ (blk_put_other BK2.out hg (by have:=blk_lt BK2.out;have:=EQ15.out;have:=GB2.out;omega));replace HB:=am_ (below_put HB.out (below_size HB.out) hg GE15.out);replace BK15:=am_ (hbk);clear hbk hg;obtain ⟨cgb15_0,cgb15_1,cgb15_2⟩:=xz3_ BK15))
      have h7:=HH.out;clear HH;rw [HSB.out] at h7;obtain ⟨bb,hfit,h8⟩:=Option.bind_eq_some_iff.1 h7;clear h7;have HFIT:=Aside0.mk hfit;have HH:=Aside0.mk h8;clear hfit h8 HCS3 HGL3 k8 k9 k10 GB2;have NE2:=am_ (show gb2≠gb from fun e=>NE2.out (by rw [e];rfl));have NE15:=am_ (show gb15≠gb from fun e=>by have:=GLT15.out;have:=EQ15.out;omega);go_loopg [17,18,59] ts.length (fun kq s17 s18 s59 wr=> ∃i:Nat,i≤ts.length∧ts.length - i≤kq∧s59= .int .i64 i∧Aside0 (fitsF k l0 fs sb (ts.drop i)=some bb)∧Aside0 (Below w.heap.size w wr)∧Aside0 (wr.heap[gb2]?=some (.cells #[.slice (some ⟨gb,0,none⟩) out.length c5, .int .i64 j] 197 (0,0)))∧Aside0 (wr.heap[gb15]?=some (.cells #[.int .i64 sb.f0, .int .i64 sb.f1, .int .i64 sb.f2] 37 (0,0)))∧Aside0 (Kd.R k79 79 wr w.heap.size (fun _=>True) (.slice (some ⟨gb,0,none⟩) out.length c5) l2)∧Aside0 (Kd.R Kd.string 9 wr w.heap.size (fun _=>True) (.slice At ts.length ct) ts)∧Aside0 (Kd.R Kd.string 9 wr w.heap.size (fun _=>True) (.slice Af fs.length cf) fs))
      case atStart=>exact ⟨0,by omega,by omega,rfl,HFIT,HB,BK2,BK15,HO,HTO,HFR⟩
      case round=>
        clear HFIT HB BK2 BK15 HO HTO HFR cgb2_0 cgb2_1 cgb15_0 cgb15_1 cgb15_2;obtain ⟨i,hi,hg,rfl,HFIT,HB,BK2,BK15,HO,HTO,HFR⟩:=hrel;by_cases hlt:i<ts.length;rotate_left
        · obtain rfl : i = ts.length := by omega
          have hf:=HFIT.out
          rw [List.drop_length] at hf
          cases hf
          have h8:=HH.out
          clear HH HFIT
          rw [if_neg (by simp)] at h8
          obtain ⟨l3,hs3,h9⟩:=Option.bind_eq_some_iff.1 h8
          obtain ⟨l4,hs4,h10⟩:=Option.bind_eq_some_iff.1 h9
          cases h10
          have HS3:=Aside0.mk hs3
          have HS4:=Aside0.mk hs4
          obtain ⟨cgb2_0,cgb2_1⟩:=xz2_ BK2
          clear h8 h9 hs3 hs4
          go_wp2_with fail
          refine (shapeShift_calls 162 #[.pointer (some ⟨gb15,0,none⟩)] (mvSub sb) gb15 _ w.heap.size w.heap.size _ l2 l3 j Af cf fs _ (enters_of Try.func162 (by kernel_rfl) rfl) HO.out (below_size HB.out) BK15.out (fun e=>NE15.out (Option.some.inj e)) HFR.out (fun W' u hb=>shMove1_calls W' gb15 sb u hb) HS3.out).mono ?_
          rintro e ws1 ⟨rfl,ho,ht⟩
          clear cgb2_0 cgb2_1
          replace HTO:=am_ (R_turned HTO.out HO.out (by decide) ht);replace BK2:=am_ (ht.block _ _ BK2.out (fun e=>NE2.out (Option.some.inj e)));replace BK15:=am_ (ht.block _ _ BK15.out (fun e=>NE15.out (Option.some.inj e)));replace HB:=am_ (HB.out.trans ht.below);replace HO:=am_ (ho)
          clear ho ht HFR
          obtain ⟨cgb2_0,cgb2_1⟩:=xz2_ BK2
          go_wp2_with fail
          refine (shapeShift_calls 164 #[.pointer (some ⟨gb15,0,none⟩)] (mvAdd sb) gb15 _ w.heap.size w.heap.size _ l3 l4 j At ct ts _ (enters_of Try.func164 (by kernel_rfl) rfl) HO.out (below_size HB.out) BK15.out (fun e=>NE15.out (Option.some.inj e)) HTO.out (fun W' u hb=>shMove2_calls W' gb15 sb u hb) HS4.out).mono ?_
          rintro e ws2 ⟨rfl,ho,ht⟩
          clear cgb2_0 cgb2_1
          replace BK2:=am_ (ht.block _ _ BK2.out (fun e=>NE2.out (Option.some.inj e)));replace HB:=am_ (HB.out.trans ht.below);replace HO:=am_ (ho)
          clear ho ht HTO BK15
          obtain ⟨cgb2_0,cgb2_1⟩:=xz2_ BK2
          have hl4:l4.length=out.length:=by rw [shiftF_len _ _ _ _ HS4.out,shiftF_len _ _ _ _ HS3.out,HLEN.out]
          have hcs:=sh_cells' HO.out hl4 j HJ0.out HJ1.out
          generalize hyy:rd_T79 l4 j=yy at hcs
          have HYY:=Aside0.mk hyy
          have HCS:=Aside0.mk hcs
          have HGL:=am_ (show gb<ws2.heap.size from Kd.R_lt HO.out gb rfl)
          have HL4:=Aside0.mk hl4
          clear hcs hl4 hyy
          go_wp2_with fail
          refine (shapeItem_calls _ ⟨gb,0,none⟩ out.length c5 j HJ0.out HJ1.out).mono ?_
          rintro e ws3 ⟨rfl,hb⟩
          clear cgb2_0 cgb2_1
          have HCS1:=am_ (fun j' u hu=>(hb.cell (p:=⟨gb,j.toNat*12+j',none⟩) HGL.out).trans (HCS.out j' u hu))
          replace HO:=am_ (Kd.R_below HO.out hb);replace BK2:=am_ (blk_below BK2.out hb);replace HB:=am_ (below_step HB.out hb)
          clear hb HCS HGL
          obtain ⟨cgb2_0,cgb2_1⟩:=xz2_ BK2
          go_wp2_with ((with_reducible refine gate_store (t:=9) (p:=97) (v:= .tmp 95) rfl ?_);refine Kd.R_store k79 (w0:=ws3) w.heap.size rfl rfl 9 (.tmp 97) (.tmp 95) rfl 79 (g:=gb) (n:=out.length) (cap:=c5) (o':=j.toNat*12+1) j 1 l4 (parF a2 yy) (.string a2) [.string a2] (shCells yy) (fun _=>True) (fun _=>False) rfl rfl rfl rfl ?ct ?c1 HO.out ?c2 ?c3 rfl HCS1.out (by show 1+1≤12;omega) ?cM (fun _ h=>h.elim) (Below.refl _ _) ?_;(case ct=>kernel_rfl);(case c1=>intro q hq;simp only [List.mem_cons,List.not_mem_nil,or_false] at hq;rcases hq with rfl;rfl);(case c2=>exact HJ0.out);(case c3=>exact HJ1.out);(case cM=>exact k79_mkM _ _ _ (parF a2 yy));intro ws4 ho hb hg;have HO9:=Aside0.mk ho;have HB9:=am_ (below_put HB.out (below_size HB.out) hg HGB.out);have BK9:=am_ (blk_put_other BK2.out hg NE2.out);clear cgb2_0 cgb2_1;obtain ⟨cgb2_0,cgb2_1⟩:=xz2_ BK9;clear ho hb hg)
          go_ret2
          refine ⟨_,rfl, ?_,HB9.out⟩
          show Kd.R k79 79 _ _ _ _ (l4.set j.toNat (parF a2 (rd_T79 l4 j)))
          rw [HYY.out]
          exact HO9.out
        have hltz:(i:Int)<(ts.length:Int):=by omega
        have hdr:ts.drop i=ts[i]::ts.drop (i+1):=List.drop_eq_getElem_cons hlt;have hst:rdOf ByteArray.empty ts (i:Int)=ts[i]:=by simp [rdOf,hlt]
        have hf:=HFIT.out;rw [hdr,←hst] at hf;unfold fitsF at hf;obtain ⟨jx,hjx,hf2⟩:=Option.bind_eq_some_iff.1 hf
        split at hf2
        case isFalse=>cases hf2
        case isTrue hjb=>
        obtain ⟨c,hcn,hf3⟩:=Option.bind_eq_some_iff.1 hf2;obtain ⟨ad,e1,h0⟩:=at_str (Kd.R_reads' HTO.out).2.2 (i:Int) (by omega) (by omega);cases e1;simp only [Int.toNat_natCast] at h0;have HJX:=Aside0.mk hjx;have HCN:=Aside0.mk hcn;have HF3:=Aside0.mk hf3;have HX0:=Aside0.mk hjb.1;have HX1:=Aside0.mk hjb.2;clear hdr hst hf hf2 hf3 hjx hcn HFIT hjb;go_wp2_with fail
        refine (tree_Find.calls _ _ l0 _ jx _ (Kd.C_below HR.out HB.out) HC.out HJX.out).mono ?_;rintro e wa1 ⟨rfl,hb⟩;clear h0;replace HO:=am_ (Kd.R_below HO.out hb);replace HTO:=am_ (Kd.R_below HTO.out hb);replace HFR:=am_ (Kd.R_below HFR.out hb);replace BK2:=am_ (blk_below BK2.out hb);replace BK15:=am_ (blk_below BK15.out hb);replace HB:=am_ (below_step HB.out hb);clear hb;obtain ⟨adx,e1,k0,k1,k2,k3,k4,k5,k6,k7,k8,k9,k10,k11⟩:=at_T79 (Kd.C_below HR.out HB.out) jx HX0.out HX1.out;cases e1;have q0:(0≤jx)=True:=eq_true HX0.out;have q1:(jx<(l0.length:Int))=True:=eq_true HX1.out;have hf3:=HF3.out;clear HF3;generalize hx:rd_T79 l0 jx=x at k0 k1 k2 k3 k4 k5 k6 k7 k8 k9 k10 k11 hf3;have HF3:=Aside0.mk hf3;have LT2:=am_ (blk_lt BK2.out);have LT15:=am_ (blk_lt BK15.out);clear hx hf3;have HO1:=am_ (Kd.R_mono (ok':=fun k_=>k_<wa1.heap.size) (Kd.R_bound HO.out) (fun _ hk=>hk.2.2.1));clear HO;have HO:=HO1;clear HO1
        go_wp2_with (first|((with_reducible refine gate_dst (N:=18) rfl ?_);refine bx_ (N:=18) (cs:=#[.string ⟨#[]⟩, .string ⟨#[]⟩, .int .i64 0, .int .i64 0, .int .i64 0, .int .i64 0, .int .i64 0, .int .i64 0, .int .i64 0, .int .i64 0, .int .i64 0, .int .i64 0]) (t:=79) ?_;intro gb18 hg we hbox hb;replace HO:=am_ (Kd.R_below HO.out hb);replace HTO:=am_ (Kd.R_below HTO.out hb);replace HFR:=am_ (Kd.R_below HFR.out hb);replace BK2:=am_ (blk_below BK2.out hb);replace BK15:=am_ (blk_below BK15.out hb);have BK18:=am_ (hbox);have GE18:=am_ ((by rw [hg];exact below_size HB.out:w.heap.size≤gb18));replace HB:=am_ (below_step HB.out hb);have EQ18:=am_ (hg);clear hb hbox hg)|((with_reducible refine gate_store (t:=79) (p:=18) (v:= .tmp 68) rfl ?_);refine store_all BK18.out 79 (.tmp 18) (.tmp 68) rfl rfl rfl (.agg #[.string x.f0, .string x.f1, .int .i64 x.f2.f0, .int .i64 x.f2.f1, .int .i64 x.f2.f2, .int .i64 x.f3.f0, .int .i64 x.f3.f1, .int .i64 x.f3.f2, .int .i64 x.f4.f0, .int .i64 x.f4.f1, .int .i64 x.f4.f2, .int .i64 x.f5]) [.string x.f0, .string x.f1, .int .i64 x.f2.f0, .int .i64 x.f2.f1, .int .i64 x.f2.f2, .int .i64 x.f3.f0, .int .i64 x.f3.f1, .int .i64 x.f3.f2, .int .i64 x.f4.f0, .int .i64 x.f4.f1, .int .i64 x.f4.f2, .int .i64 x.f5] rfl rfl rfl (by kernel_rfl) rfl (by intro q hq;simp only [List.mem_cons,List.not_mem_nil,or_false] at hq;rcases hq with rfl|rfl|rfl|rfl|rfl|rfl|rfl|rfl|rfl|rfl|rfl|rfl<;>rfl) ?_;intro wf hbk hg;replace HTO:=am_ (R_put HTO.out BK18.out (by decide) hg);replace HFR:=am_ (R_put HFR.out BK18.out (by decide) hg);replace BK2:=am_ (blk_put_other BK2.out hg (by have:=EQ18.out;have:=LT2.out;omega));replace BK15:=am_ (blk_put_other BK15.out hg (by have:=EQ18.out;have:=LT15.out;omega));replace HB:=am_ (below_put HB.out (below_size HB.out) hg GE18.out);replace HO:=am_ (Kd.R_mono (Kd.R_grown HO.out hg (fun k_ hk e=>by have:=EQ18.out;have:=Option.some.inj e;have:k_<wa1.heap.size:=hk;omega)) (fun _ _=>trivial));replace BK18:=am_ (hbk);clear hbk hg;obtain ⟨_,_,cgb18_2,cgb18_3,cgb18_4,_,_,_,cgb18_8,cgb18_9,cgb18_10,_⟩:=xz12_ BK18))
        clear k0 k1 k2 k3 k4 k5 k6 k7 k8 k9 k10 k11;obtain ⟨cgb15_0,cgb15_1,cgb15_2⟩:=xz3_ BK15;have hf3:=HF3.out;clear HF3
        cases c with
        | true =>
          rw [if_pos rfl] at hf3;have HF4:=Aside0.mk hf3;clear hf3;refine start_ (n:=15) (S:=fun w'=>w'.cell? ⟨gb18,2,none⟩=some (.int .i64 x.f2.f0)∧w'.cell? ⟨gb18,3,none⟩=some (.int .i64 x.f2.f1)∧w'.cell? ⟨gb18,4,none⟩=some (.int .i64 x.f2.f2)∧w'.cell? ⟨gb18,8,none⟩=some (.int .i64 x.f4.f0)∧w'.cell? ⟨gb18,9,none⟩=some (.int .i64 x.f4.f1)∧w'.cell? ⟨gb18,10,none⟩=some (.int .i64 x.f4.f2)∧w'.cell? ⟨gb15,0,none⟩=some (.int .i64 sb.f0)∧w'.cell? ⟨gb15,1,none⟩=some (.int .i64 sb.f1)∧w'.cell? ⟨gb15,2,none⟩=some (.int .i64 sb.f2)∧Below wf.heap.size wf w') (ds:=[]) (bt_ 15 0) (by kernel_rfl) rfl rfl ⟨cgb18_2,cgb18_3,cgb18_4,cgb18_8,cgb18_9,cgb18_10,cgb15_0,cgb15_1,cgb15_2,below_drew (Below.refl _ _)⟩ (fun hHeld=> ?_);refine pv_ (i:=0) (N:=some 69) (bt_ 15 1) ?_;refine pv_ (i:=1) (N:=some 70) (bt_ 15 3) ?_;refine one_ (i:=2) (N:=some 71) (bt_ 15 7) rfl rfl (by kernel_rfl) (by decide) (fun K hK=> ?_);refine goes_ Try.func160 (by kernel_rfl) rfl #[.slice Af fs.length cf, .string (rdOf ByteArray.empty ts i)] (by rfl) rfl rfl (by (try simp only [List.map_toArray,List.map_cons,List.map_nil]);rfl) ?_;refine (slices_Contains_string_string.calls k _ _ fs _ _ _ (Kd.R_reads' (Kd.R_below HFR.out (hHeld.2.2.2.2.2.2.2.2.2))).2.2 (Kd.R_reads' HFR.out).2.1 HCN.out).mono ?_;rintro e wd ⟨rfl,hd⟩;have hb:=hd.below;refine ⟨_,rfl, ?_⟩
          refine hK.out _ _ ⟨zh_ hb hHeld.1,zh_ hb hHeld.2.1,zh_ hb hHeld.2.2.1,zh_ hb hHeld.2.2.2.1,zh_ hb hHeld.2.2.2.2.1,zh_ hb hHeld.2.2.2.2.2.1,zh_ hb hHeld.2.2.2.2.2.2.1,zh_ hb hHeld.2.2.2.2.2.2.2.1,zh_ hb hHeld.2.2.2.2.2.2.2.2.1,below_step hHeld.2.2.2.2.2.2.2.2.2 hb⟩ (fun hHeld=> ?_);clear hK K hb hd;refine norm_ (a':= ?_) ?_ ?_;rotate_left
          · show Act.put _ (some 71) _ = _
            simp only [Act.put,List.setIfInBounds_toArray,List.set_cons_zero,List.set_cons_succ,i64_w,i32_w]
            rfl
          refine pv_ (i:=3) (N:=some 72) (bt_ 15 15) ?_;refine pv_ (i:=4) (N:=some 73) (bt_ 15 31) ?_;refine take_ (i:=5) (N:=some 74) (v:=undef) (a':= ?_) (bt_ 15 63) rfl rfl (by kernel_rfl) (fun _ _ _ h=>h) (Or.inr ⟨by rfl,rfl⟩) hHeld ?_ ?_;rotate_left;(simp only [Act.put,List.setIfInBounds_toArray,List.set_cons_zero,List.set_cons_succ,i64_w,i32_w];rfl);refine take_ (i:=6) (N:=some 75) (v:=undef) (a':= ?_) (bt_ 15 127) rfl rfl (by kernel_rfl) (fun _ _ _ h=>h) (Or.inr ⟨by rfl,rfl⟩) hHeld ?_ ?_;rotate_left;(simp only [Act.put,List.setIfInBounds_toArray,List.set_cons_zero,List.set_cons_succ,i64_w,i32_w];rfl);refine take_ (i:=7) (N:=some 76) (v:=undef) (a':= ?_) (bt_ 15 255) rfl rfl (by kernel_rfl) (fun _ _ _ h=>h) (Or.inr ⟨by rfl,rfl⟩) hHeld ?_ ?_;rotate_left;(simp only [Act.put,List.setIfInBounds_toArray,List.set_cons_zero,List.set_cons_succ,i64_w,i32_w];rfl);refine take_ (i:=8) (N:=some 77) (v:=undef) (a':= ?_) (bt_ 15 511) rfl rfl (by kernel_rfl) (fun _ _ _ h=>h) (Or.inr ⟨by rfl,rfl⟩) hHeld ?_ ?_;rotate_left;(simp only [Act.put,List.setIfInBounds_toArray,List.set_cons_zero,List.set_cons_succ,i64_w,i32_w];rfl);refine take_ (i:=9) (N:=some 78) (v:=undef) (a':= ?_) (bt_ 15 1023) rfl rfl (by kernel_rfl) (fun _ _ _ h=>h) (Or.inr ⟨by rfl,rfl⟩) hHeld ?_ ?_;rotate_left;(simp only [Act.put,List.setIfInBounds_toArray,List.set_cons_zero,List.set_cons_succ,i64_w,i32_w];rfl)
          refine take_ (i:=10) (N:=some 79) (v:=undef) (a':= ?_) (bt_ 15 2047) rfl rfl (by kernel_rfl) (fun _ _ _ h=>h) (Or.inr ⟨by rfl,rfl⟩) hHeld ?_ ?_;rotate_left;(simp only [Act.put,List.setIfInBounds_toArray,List.set_cons_zero,List.set_cons_succ,i64_w,i32_w];rfl);refine take_ (i:=11) (N:=some 80) (v:=undef) (a':= ?_) (bt_ 15 4095) rfl rfl (by kernel_rfl) (fun _ _ _ h=>h) (Or.inr ⟨by rfl,rfl⟩) hHeld ?_ ?_;rotate_left;(simp only [Act.put,List.setIfInBounds_toArray,List.set_cons_zero,List.set_cons_succ,i64_w,i32_w];rfl);refine take_ (i:=12) (N:=some 81) (v:=undef) (a':= ?_) (bt_ 15 8191) rfl rfl (by kernel_rfl) (fun _ _ _ h=>h) (Or.inr ⟨by rfl,rfl⟩) hHeld ?_ ?_;rotate_left;(simp only [Act.put,List.setIfInBounds_toArray,List.set_cons_zero,List.set_cons_succ,i64_w,i32_w];rfl);refine take_ (i:=13) (N:=some 82) (v:=undef) (a':= ?_) (bt_ 15 16383) rfl rfl (by kernel_rfl) (fun _ _ _ h=>h) (Or.inr ⟨by rfl,rfl⟩) hHeld ?_ ?_;rotate_left;(simp only [Act.put,List.setIfInBounds_toArray,List.set_cons_zero,List.set_cons_succ,i64_w,i32_w];rfl);refine pv_ (i:=14) (N:=some 83) (bt_ 15 32767) ?_;refine done_ (by kernel_rfl) ?_;have hBz:Below wf.heap.size wf wd:=hHeld.2.2.2.2.2.2.2.2.2;clear hHeld;replace HO:=am_ (Kd.R_below HO.out hBz);replace HTO:=am_ (Kd.R_below HTO.out hBz);replace HFR:=am_ (Kd.R_below HFR.out hBz);replace BK2:=am_ (blk_below BK2.out hBz);replace BK15:=am_ (blk_below BK15.out hBz);replace HB:=am_ (below_step HB.out hBz);clear hBz;go_wp2_with fail
          go_roundg (ts.length - (i+1))
          case measure=>omega
          case rel=>exact ⟨i+1,by omega,by omega,by go_num,HF4,HB,BK2,BK15,HO,HTO,HFR⟩
        | false =>
          rw [if_neg (by simp)] at hf3;obtain ⟨b,hle,hf4⟩:=Option.bind_eq_some_iff.1 hf3;obtain ⟨⟨q1,q2,q3⟩,hqv⟩: ∃q:Int×Int×Int,vec_Add.f [x.f4,sb]=some q:=⟨_,rfl⟩;rw [show mvAdd sb x.f4=⟨q1,q2,q3⟩ from by unfold mvAdd;rw [hqv];rfl] at hle;have HQV:=Aside0.mk hqv;have HLE:=Aside0.mk hle;have HF4:=Aside0.mk hf4;clear hf3 hle hf4 hqv;refine start_ (n:=15) (S:=fun w'=>w'.cell? ⟨gb18,2,none⟩=some (.int .i64 x.f2.f0)∧w'.cell? ⟨gb18,3,none⟩=some (.int .i64 x.f2.f1)∧w'.cell? ⟨gb18,4,none⟩=some (.int .i64 x.f2.f2)∧w'.cell? ⟨gb18,8,none⟩=some (.int .i64 x.f4.f0)∧w'.cell? ⟨gb18,9,none⟩=some (.int .i64 x.f4.f1)∧w'.cell? ⟨gb18,10,none⟩=some (.int .i64 x.f4.f2)∧w'.cell? ⟨gb15,0,none⟩=some (.int .i64 sb.f0)∧w'.cell? ⟨gb15,1,none⟩=some (.int .i64 sb.f1)∧w'.cell? ⟨gb15,2,none⟩=some (.int .i64 sb.f2)∧Below wf.heap.size wf w') (ds:=[]) (bt_ 15 0) (by kernel_rfl) rfl rfl ⟨cgb18_2,cgb18_3,cgb18_4,cgb18_8,cgb18_9,cgb18_10,cgb15_0,cgb15_1,cgb15_2,below_drew (Below.refl _ _)⟩ (fun hHeld=> ?_);refine pv_ (i:=0) (N:=some 69) (bt_ 15 1) ?_;refine pv_ (i:=1) (N:=some 70) (bt_ 15 3) ?_;refine one_ (i:=2) (N:=some 71) (bt_ 15 7) rfl rfl (by kernel_rfl) (by decide) (fun K hK=> ?_);refine goes_ Try.func160 (by kernel_rfl) rfl #[.slice Af fs.length cf, .string (rdOf ByteArray.empty ts i)] (by rfl) rfl rfl (by (try simp only [List.map_toArray,List.map_cons,List.map_nil]);rfl) ?_
          refine (slices_Contains_string_string.calls k _ _ fs _ _ _ (Kd.R_reads' (Kd.R_below HFR.out (hHeld.2.2.2.2.2.2.2.2.2))).2.2 (Kd.R_reads' HFR.out).2.1 HCN.out).mono ?_;rintro e wd ⟨rfl,hd⟩;have hb:=hd.below;refine ⟨_,rfl, ?_⟩;refine hK.out _ _ ⟨zh_ hb hHeld.1,zh_ hb hHeld.2.1,zh_ hb hHeld.2.2.1,zh_ hb hHeld.2.2.2.1,zh_ hb hHeld.2.2.2.2.1,zh_ hb hHeld.2.2.2.2.2.1,zh_ hb hHeld.2.2.2.2.2.2.1,zh_ hb hHeld.2.2.2.2.2.2.2.1,zh_ hb hHeld.2.2.2.2.2.2.2.2.1,below_step hHeld.2.2.2.2.2.2.2.2.2 hb⟩ (fun hHeld=> ?_);clear hK K hb hd;refine norm_ (a':= ?_) ?_ ?_;rotate_left
          · show Act.put _ (some 71) _ = _
            simp only [Act.put,List.setIfInBounds_toArray,List.set_cons_zero,List.set_cons_succ,i64_w,i32_w]
            rfl
          refine pv_ (i:=3) (N:=some 72) (bt_ 15 15) ?_;refine pv_ (i:=4) (N:=some 73) (bt_ 15 31) ?_;refine pv_ (i:=5) (N:=some 74) (bt_ 15 63) ?_;refine tv_ (i:=6) (N:=some 75) (bt_ 15 127) hHeld ?_;refine tv_ (i:=7) (N:=some 76) (bt_ 15 255) hHeld ?_;refine pv_ (i:=10) (N:=some 79) (bt_ 15 1279) ?_;refine tv_ (i:=11) (N:=some 80) (bt_ 15 3327) hHeld ?_;refine one_ (i:=8) (N:=some 77) (bt_ 15 3583) rfl rfl (by kernel_rfl) (by decide) (fun K hK=> ?_);obtain ⟨wz,hwz⟩: ∃wz,wz=wd.alloc (.cells #[.int .i64 x.f4.f0, .int .i64 x.f4.f1, .int .i64 x.f4.f2, .int .i64 sb.f0, .int .i64 sb.f1, .int .i64 sb.f2] 37):=⟨_,rfl⟩;refine value_ (v:= .slice (some ⟨wd.heap.size,0,none⟩) 2 2) (w1:=wz) (by rfl) rfl (by rw [hwz];first|(go_simp;done)|(go_simp;rfl)) ?_;have hb:Below wd.heap.size wd wz:=by rw [hwz];exact below_alloc (Below.refl _ _) _
          have BKV:=am_ (show wz.heap[wd.heap.size]?=some (.cells #[.int .i64 x.f4.f0, .int .i64 x.f4.f1, .int .i64 x.f4.f2, .int .i64 sb.f0, .int .i64 sb.f1, .int .i64 sb.f2] 37 (0,0)) from by rw [hwz];exact blk_new _ _);clear hwz;refine hK.out _ _ ⟨zh_ hb hHeld.1,zh_ hb hHeld.2.1,zh_ hb hHeld.2.2.1,zh_ hb hHeld.2.2.2.1,zh_ hb hHeld.2.2.2.2.1,zh_ hb hHeld.2.2.2.2.2.1,zh_ hb hHeld.2.2.2.2.2.2.1,zh_ hb hHeld.2.2.2.2.2.2.2.1,zh_ hb hHeld.2.2.2.2.2.2.2.2.1,below_step hHeld.2.2.2.2.2.2.2.2.2 hb⟩ (fun hHeld=> ?_);clear hK K hb;refine norm_ (a':= ?_) ?_ ?_;rotate_left
          · show Act.put _ (some 77) _ = _
            simp only [Act.put,List.setIfInBounds_toArray,List.set_cons_zero,List.set_cons_succ,i64_w,i32_w]
            rfl
          refine one_ (i:=9) (N:=some 78) (bt_ 15 4095) rfl rfl (by kernel_rfl) (by decide) (fun K hK=> ?_);refine goes_ Try.func115 (by kernel_rfl) rfl #[.slice (some ⟨wd.heap.size,0,none⟩) 2 2] (by rfl) rfl rfl (by (try simp only [List.map_toArray,List.map_cons,List.map_nil]);rfl) ?_;refine (vec_Add.calls (some ⟨_,0,none⟩) 2 [x.f4,sb] q1 q2 q3 _ (vec_two_row x.f4 sb BKV.out) (Nat.le_refl _) HQV.out).mono ?_;rintro e wy ⟨rfl,hb⟩;refine ⟨_,rfl, ?_⟩;refine hK.out _ _ ⟨zh_ hb hHeld.1,zh_ hb hHeld.2.1,zh_ hb hHeld.2.2.1,zh_ hb hHeld.2.2.2.1,zh_ hb hHeld.2.2.2.2.1,zh_ hb hHeld.2.2.2.2.2.1,zh_ hb hHeld.2.2.2.2.2.2.1,zh_ hb hHeld.2.2.2.2.2.2.2.1,zh_ hb hHeld.2.2.2.2.2.2.2.2.1,below_step hHeld.2.2.2.2.2.2.2.2.2 hb⟩ (fun hHeld=> ?_);clear hK K hb BKV;refine norm_ (a':= ?_) ?_ ?_;rotate_left
          · show Act.put _ (some 78) _ = _
            simp only [Act.put,List.setIfInBounds_toArray,List.set_cons_zero,List.set_cons_succ,i64_w,i32_w]
            rfl
          refine one_ (i:=12) (N:=some 81) (bt_ 15 8191) rfl rfl (by kernel_rfl) (by decide) (fun K hK=> ?_);refine goes_ Try.func114 (by kernel_rfl) rfl #[.agg #[.int .i64 q1, .int .i64 q2, .int .i64 q3], .agg #[.int .i64 x.f2.f0, .int .i64 x.f2.f1, .int .i64 x.f2.f2]] (by rfl) rfl rfl (by (try simp only [List.map_toArray,List.map_cons,List.map_nil]);rfl) ?_;refine (vec_Le.calls _ _ _ _ _ _ _ _ HLE.out).mono ?_;rintro e wx ⟨rfl,hb⟩;refine ⟨_,rfl, ?_⟩;refine hK.out _ _ ⟨zh_ hb hHeld.1,zh_ hb hHeld.2.1,zh_ hb hHeld.2.2.1,zh_ hb hHeld.2.2.2.1,zh_ hb hHeld.2.2.2.2.1,zh_ hb hHeld.2.2.2.2.2.1,zh_ hb hHeld.2.2.2.2.2.2.1,zh_ hb hHeld.2.2.2.2.2.2.2.1,zh_ hb hHeld.2.2.2.2.2.2.2.2.1,below_step hHeld.2.2.2.2.2.2.2.2.2 hb⟩ (fun hHeld=> ?_);clear hK K hb;refine norm_ (a':= ?_) ?_ ?_;rotate_left
          · show Act.put _ (some 81) _ = _
            simp only [Act.put,List.setIfInBounds_toArray,List.set_cons_zero,List.set_cons_succ,i64_w,i32_w]
            rfl
          refine pv_ (i:=13) (N:=some 82) (bt_ 15 16383) ?_;refine pv_ (i:=14) (N:=some 83) (bt_ 15 32767) ?_;refine done_ (by kernel_rfl) ?_;have hBz:Below wf.heap.size wf wx:=hHeld.2.2.2.2.2.2.2.2.2;clear hHeld;replace HO:=am_ (Kd.R_below HO.out hBz);replace HTO:=am_ (Kd.R_below HTO.out hBz);replace HFR:=am_ (Kd.R_below HFR.out hBz);replace BK2:=am_ (blk_below BK2.out hBz);replace BK15:=am_ (blk_below BK15.out hBz);replace HB:=am_ (below_step HB.out hBz);clear hBz;have hf4:=HF4.out;clear HF4
          cases b with
          | true =>
            rw [if_pos rfl] at hf4;have HF4:=Aside0.mk hf4;clear hf4;go_wp2_with fail
            go_roundg (ts.length - (i+1))
            case measure=>omega
            case rel=>exact ⟨i+1,by omega,by omega,by go_num,HF4,HB,BK2,BK15,HO,HTO,HFR⟩
          | false =>
            rw [if_neg (by simp)] at hf4;cases hf4;have h8:=HH.out;rw [if_pos rfl] at h8;cases h8;go_wp2_with fail
            go_ret2
            exact ⟨_,rfl,Kd.R_nil _ _ _ _ _,HB.out⟩
def tree_Below.l0:Nat→ByteArray→List ByteArray→List (S79)→Int→Int→Option (List ByteArray)
 |0,_,_,_,_,_=>none
 |k+1,x1,x5,x8,x9,x10=>if x10<x9 then (if 0≤x10 then (if x10<(x8.length:Int) then (if ((rd_T79 x8 x10).f1).toList=x1.toList then (if x5.length<8796093022208 then (tree_Below.l0 k x1 (x5++ [(rd_T79 x8 x10).f0]) x8 x9 (wrap64 (x10+1))) else (none)) else (tree_Below.l0 k x1 x5 x8 x9 (wrap64 (x10+1)))) else (none)) else (none)) else (some x5)
def tree_Below.f (k:Nat) (l0:List (S79)) (a1:ByteArray):Option (List ByteArray):=tree_Below.l0 k a1 ([]:List ByteArray) l0 (l0.length:Int) 0
theorem tree_Below.mono_l: ∀k,(∀y0 y1 y2 y3 y4,LeO (tree_Below.l0 k y0 y1 y2 y3 y4) (tree_Below.l0 (k+1) y0 y1 y2 y3 y4))
 |0=>fun _ _ _ _ _ r h=>by simp [tree_Below.l0] at h
 |k+1=>by
  have ih0:=tree_Below.mono_l k;intro y0 y1 y2 y3 y4;unfold tree_Below.l0
  repeat' with_reducible first|apply ih0|apply LeO.refl|apply LeO.none|apply LeO.ite|refine LeO.bind ?_ fun _=> ?_
theorem tree_Below.mono: ∀a0 a1 k,LeO (tree_Below.f k a0 a1) (tree_Below.f (k+1) a0 a1):=by
 intro a0 a1 k;have ih0:=tree_Below.mono_l k;unfold tree_Below.f
 repeat' with_reducible first|apply ih0|apply LeO.refl|apply LeO.none|apply LeO.ite|refine LeO.bind ?_ fun _=> ?_
set_option maxHeartbeats 8000000 in
set_option maxRecDepth 100000 in
theorem tree_Below.calls (k:Nat) (A0:Option Addr) (c0:Nat) (l0:List (S79)) (a1:ByteArray) (r:List ByteArray) (w:World) (hr0:Kd.C k79 w A0 l0.length l0) (hc0:l0.length≤c0) (h:tree_Below.f k l0 a1=some r):
  Calls Try.prog 165 #[.slice A0 l0.length c0, .string a1] w fun e w'=> ∃v0_:Value,e= .returned (v0_)∧Kd.R Kd.string 9 w' w.heap.size (fun _=>True) v0_ r∧Below w.heap.size w w':=by
 have hu79:=Try.underlying79;have HR0:=Aside0.mk hr0;have HC0:=Aside0.mk hc0;clear hr0 hc0;have HB:=am_ (Below.refl w.heap.size w);have H:(tree_Below.l0 k a1 ([]:List ByteArray) l0 (l0.length:Int) 0)=some r:=h;clear h;have H':=Aside0.mk H;clear H;go_enter Try.func165,Try.ntmps165;go_wp2
 go_loopg [5,10] k (fun kq v5 v10 w'=> ∃(x5_1:List ByteArray) (x10_1:Int),v10= .int .i64 x10_1∧Aside0 (tree_Below.l0 kq a1 x5_1 l0 (l0.length:Int) x10_1=some r)∧Aside0 (kq≤k)∧Aside0 (Kd.R Kd.string 9 w' w.heap.size (fun _=>True) v5 x5_1)∧Aside0 (Below w.heap.size w w'))
 case atStart=>exact ⟨(([]:List ByteArray)),(0),rf_,H',⟨Nat.le_refl _⟩,⟨by first|exact Kd.R_nil _ _ _ _ _|exact Kd.N_nil _ _ _ _ _|exact Kd.V_nil _ _ _ _ _|exact Kd.Q_nil _ _ _ _ _|exact Kd.S_nil _ _ _ _ _⟩,⟨zl0_ HB⟩⟩
 case round=>
  clear H';obtain ⟨x5_1,x10_1,rfl,HA,HK1,HO_5,HB⟩:=hrel
  cases gk with
  |zero=>exact absurd HA.out (by simp [tree_Below.l0])
  |succ k1=>
   have H:=HA.out;clear HA;simp only [tree_Below.l0] at H;by_cases c3:x10_1<(l0.length:Int);rotate_left
   ·rw [if_neg c3] at H;have c3b0:=decide_eq_false c3;clear c3;obtain rfl:=Option.some.inj H;go_wp2
    go_ret
    exact ⟨_,er_,zr_ HO_5,zl0_ HB⟩

   rw [if_pos c3] at H;have c3b0:=decide_eq_true c3;clear c3;replace H:=zif_ H;obtain ⟨c4,H⟩:=H;replace c4:=decide_eq_true c4;replace H:=zif_ H;obtain ⟨c5,H⟩:=H;replace c5:=decide_eq_true c5;by_cases c6:((rd_T79 l0 x10_1).f1).toList=a1.toList;rotate_left
   ·rw [if_neg c6] at H;have c6b0:=beq_eq_false_iff_ne.mpr c6;have c6b1:=bne_iff_ne.mpr c6;have H':=Aside0.mk H;clear H;obtain ⟨p1,q1,ad1,e1,hx1_0,hx1_1,hx1_2,hx1_3,hx1_4,hx1_5,hx1_6,hx1_7,hx1_8,hx1_9,hx1_10,hx1_11⟩:=zat_ (at_T79 HR0.out x10_1);cases e1;replace hx1_0:=zx12_ HB hx1_0 hx1_1 hx1_2 hx1_3 hx1_4 hx1_5 hx1_6 hx1_7 hx1_8 hx1_9 hx1_10 hx1_11;clear hx1_1 hx1_2 hx1_3 hx1_4 hx1_5 hx1_6 hx1_7 hx1_8 hx1_9 hx1_10 hx1_11;obtain ⟨hx1_0,hx1_1,hx1_2,hx1_3,hx1_4,hx1_5,hx1_6,hx1_7,hx1_8,hx1_9,hx1_10,hx1_11⟩:=hx1_0
    go_wp2_with (first|((with_reducible refine gate_dst (N:=7) rfl ?_);refine bx_ (N:=7) (cs:=#[.string (⟨#[]⟩:ByteArray), .string (⟨#[]⟩:ByteArray), .int .i64 0, .int .i64 0, .int .i64 0, .int .i64 0, .int .i64 0, .int .i64 0, .int .i64 0, .int .i64 0, .int .i64 0, .int .i64 0]) (t:=79) ?_;intro gb2 hg w11 hbox hb;replace HO_5:=ob_ HO_5 hb;have BK2:=am_ (hbox);have GE2:=am_ ((zg0_ HB hg:w.heap.size≤gb2));replace HB:=am_ (below_step (zl0_ HB) hb);clear hb hbox hg;obtain ⟨_,_,_,_,_,_,_,_,_,_,_,_⟩:=x12_ BK2;obtain ⟨_,_,_,_,_,_,_,_,_,_,_,_⟩:=ff12_ BK2))
    go_roundg k1
    case measure=>have:=HK1.out;omega
    case rel=>exact ⟨(x5_1),(wrap64 (x10_1+1)),rf_,H',⟨by have:=HK1.out;omega⟩,⟨zy_ HO_5 BK2⟩,⟨zl1_ HB GE2⟩⟩
   rw [if_pos c6] at H;have c6b0:=beq_iff_eq.mpr c6;have c6b1:=bne_eq_false_iff_eq.mpr c6;clear c6;replace H:=zif_ H;obtain ⟨c7,H⟩:=H;have LMc7:=Aside0.mk c7;clear c7;obtain ⟨y3,hy3⟩: ∃y_:List ByteArray,y_=(x5_1++ [(rd_T79 l0 x10_1).f0]):=⟨_,rfl⟩;(first|replace H:=zsb_ hy3 H|rw [←hy3] at H);have Ny3:=Aside0.mk hy3;clear hy3;have H':=Aside0.mk H;clear H;obtain ⟨p1,q1,ad1,e1,hx1_0,hx1_1,hx1_2,hx1_3,hx1_4,hx1_5,hx1_6,hx1_7,hx1_8,hx1_9,hx1_10,hx1_11⟩:=zat_ (at_T79 HR0.out x10_1);cases e1;replace hx1_0:=zx12_ HB hx1_0 hx1_1 hx1_2 hx1_3 hx1_4 hx1_5 hx1_6 hx1_7 hx1_8 hx1_9 hx1_10 hx1_11;clear hx1_1 hx1_2 hx1_3 hx1_4 hx1_5 hx1_6 hx1_7 hx1_8 hx1_9 hx1_10 hx1_11;obtain ⟨hx1_0,hx1_1,hx1_2,hx1_3,hx1_4,hx1_5,hx1_6,hx1_7,hx1_8,hx1_9,hx1_10,hx1_11⟩:=hx1_0
   go_wp2_with (first|((with_reducible refine gate_dst (N:=7) rfl ?_);refine bx_ (N:=7) (cs:=#[.string (⟨#[]⟩:ByteArray), .string (⟨#[]⟩:ByteArray), .int .i64 0, .int .i64 0, .int .i64 0, .int .i64 0, .int .i64 0, .int .i64 0, .int .i64 0, .int .i64 0, .int .i64 0, .int .i64 0]) (t:=79) ?_;intro gb2 hg w8 hbox hb;replace HO_5:=ob_ HO_5 hb;have BK2:=am_ (hbox);have GE2:=am_ ((zg0_ HB hg:w.heap.size≤gb2));replace HB:=am_ (below_step (zl0_ HB) hb);clear hb hbox hg;obtain ⟨_,_,_,_,_,_,_,_,_,_,_,_⟩:=x12_ BK2;obtain ⟨_,_,_,_,_,_,_,_,_,_,_,_⟩:=ff12_ BK2)|((with_reducible refine gate_builtin (b:= .append) (xs:=#[.tmp 18, .tmp 21]) rfl ?_);at_builtin;refine Kd.R_append Kd.string (w0:=w) w.heap.size rfl (.tmp 18) (.tmp 21) 85 9 (.string ⟨#[]⟩) 16 rfl Try.underlying85 info9 rfl (by decide) (by omega) u5 x5_1 ((rd_T79 l0 x10_1).f0) [.string ((rd_T79 l0 x10_1).f0)] (fun _=>True) (fun _=>False) rfl (by first|(go_simp;done)|(go_simp;rfl)) ?aP (fun _ hk=>hk.elim) ?aF ?aO ?aB ?aS ?aL ?_;(case aP=>exact rfl);(case aB=>exact (zl1_ HB GE2));(case aF=>exact (fun _ _=>trivial));(case aO=>exact (by refine zt_ ?_;exact zy_ HO_5 BK2));(case aS=>exact (below_size (zl1_ HB GE2)));(case aL=>have:=LMc7.out;omega);intro v4 w10 ho hb hg hat;rw [←Ny3.out] at ho;have n0_:=am_ (blk_grown (g:=gb2) (o:= .cells #[.string ((rd_T79 l0 x10_1).f0), .string ((rd_T79 l0 x10_1).f1), .int .i64 ((rd_T79 l0 x10_1).f2.f0), .int .i64 ((rd_T79 l0 x10_1).f2.f1), .int .i64 ((rd_T79 l0 x10_1).f2.f2), .int .i64 ((rd_T79 l0 x10_1).f3.f0), .int .i64 ((rd_T79 l0 x10_1).f3.f1), .int .i64 ((rd_T79 l0 x10_1).f3.f2), .int .i64 ((rd_T79 l0 x10_1).f4.f0), .int .i64 ((rd_T79 l0 x10_1).f4.f1), .int .i64 ((rd_T79 l0 x10_1).f4.f2), .int .i64 ((rd_T79 l0 x10_1).f5)] 79 (0,0)) (zw_ BK2) hg (Kd.R_ne HO_5.out BK2.out (by decide)));have n1_:=am_ (hb);have n2_:=am_ (ho);clear BK2;clear HB;clear HO_5;have BK2:=n0_;have HB:=n1_;have HO5:=n2_;clear n0_ n1_ n2_;clear ho hb hg hat))
   go_roundg k1
   case measure=>have:=HK1.out;omega
   case rel=>exact ⟨(y3),(wrap64 (x10_1+1)),rf_,H',⟨by have:=HK1.out;omega⟩,am_ (zr_ HO5),⟨zl1_ HB GE2⟩⟩
set_option maxHeartbeats 4000000 in
set_option maxRecDepth 100000 in
theorem sliDelete_cells (w:World) (g n c i:Nat) (cur:Array Value) (h:w.heap[g]?=some (.cells cur 79 (0,0))) (hcs:cur.size=c*12) (hn:n≤c) (hm:c≤9223372036854775807) (hi:i<n) (h1: ∀u∈cur.toList.take (n*12),u.oneCell'=true):
    Calls Try.prog 166 #[.slice (some ⟨g,0,none⟩) n c, .int .i64 i, .int .i64 (i+1)] w fun e w'=>e= .returned (.slice (some ⟨g,0,none⟩) (n - 1) c)∧
      w'=(w.drew.setCells g (i*12) ((cur.toList.take (n*12)).drop ((i+1)*12))).setCells g ((n - 1)*12) zCells:=by
  have hz1: ¬((i:Int)=(i:Int)+1):=by omega
  obtain ⟨news,hnews⟩: ∃news,news=(cur.toList.take (n*12)).drop ((i+1)*12):=⟨_,rfl⟩;have hsz:n*12≤cur.size:=by rw [hcs];exact Nat.mul_le_mul_right _ hn
  have hlen:news.length=(n - (i+1))*12:=by
    rw [hnews,List.length_drop,List.length_take,Array.length_toList]
    omega
  have hget: ∀t u,news[t]?=some u→w.cell? ⟨g,(i+1)*12+t,none⟩=some u:=by
    intro t u hu;rw [hnews,List.getElem?_drop,List.getElem?_take] at hu
    split at hu
    · exact plain_cell h hu
    cases hu
  obtain ⟨A,hA,hsrc⟩: ∃A:Addr,(if c=i+1 then some (⟨g,0,none⟩:Addr) else some ⟨g,(i+1)*12,none⟩)=some A∧Aside0 (∀t u,news[t]?=some u→w.drew.cell? (A.add t)=some u):=by
    by_cases hc:c=i+1
    · refine ⟨⟨g, 0, none⟩, by simp [hc], ⟨fun t u hu => ?_⟩⟩
      have h0:news.length=0:=by rw [hlen,show n - (i+1)=0 by omega]
      rw [List.length_eq_zero_iff.1 h0] at hu
      simp at hu
    refine ⟨⟨g,(i+1)*12,none⟩,by simp [hc],⟨fun t u hu=> ?_⟩⟩;rw [Addr.add_lit];exact hget t u hu
  have s1:=Aside0.mk hlen;have HN:=Aside0.mk hnews
  have s2:Aside0 (∀u∈news,u.oneCell'=true):=⟨by
    intro u hu;rw [hnews] at hu;exact h1 u (List.mem_of_mem_drop hu)⟩
  have s3:Aside0 (∀t,t<news.length→(w.drew.cell? ⟨g,0+i*12+t,none⟩).isSome=true∧w.drew.frozen? ⟨g,0+i*12+t,none⟩=false):=⟨by
    intro t ht;rw [hlen] at ht;rw [Nat.zero_add];exact ⟨plain_there (w:=w.drew) (blk_drew h) (by omega),blk_frozen (w:=w.drew) (blk_drew h) _⟩⟩
  obtain ⟨W1,hW1⟩: ∃W1,W1=w.drew.setCells g (0+i*12) news:=⟨_,rfl⟩;have hW:=Aside0.mk hW1;obtain ⟨i0,hi0,hz0,hzs,hzb⟩:=info_parts info79;have HI:=Aside0.mk hi0;have HS:=Aside0.mk hzs
  have hW1b: ∃cur',W1.heap[g]?=some (.cells cur' 79 (0,0))∧cur'.size=cur.size:=by
    obtain ⟨cur',x,y,_⟩:=setCells_row news (0+i*12) w.drew cur (blk_drew h) (by rw [hlen];omega);exact ⟨cur',by rw [hW1];exact x,y⟩
  obtain ⟨cur',hc1,hc2⟩:=hW1b
  have hcl: ∀ty o' n' c',o'=(n - 1)*12→n'=1→(Builtin.clear_ #[46] ty #[.slice (some ⟨g,o',none⟩) n' c']).run Try.prog W1= .ok (.tuple #[]) (W1.setCells g ((n - 1)*12) zCells):=by
    rintro ty o' n' c' rfl rfl;exact run_clear_one W1 _ 79 ty _ zCells Try.underlying46 Try.zeroValue79 (by kernel_rfl) (by intro u hu;simp only [zCells,List.mem_cons,List.not_mem_nil,or_false] at hu;rcases hu with rfl|rfl|rfl|rfl|rfl|rfl|rfl|rfl|rfl|rfl|rfl|rfl<;>rfl) g _ c' (fun j hj=>plain_there hc1 (by rw [hc2];have:zCells.length=12:=rfl;omega)) (fun j hj=>blk_frozen hc1 _)
  have HCL:=Aside0.mk hcl;have hic:i≤c:=by omega
  have hjc:i+1≤n:=by omega
  have mixed:Try.prog.follows .mixedOrders=true:=by kernel_rfl
  have hz2:(0:Int)≤(i:Int)+1:=by omega
  have hz3:(i:Int)+1≤(n:Int):=by omega
  clear hW1 hnews hget hlen h1 hi0 hzs hz0 hzb hcl hc1 hc2 h hcs hsz;go_enter Try.func166,Try.ntmps166;go_wp2_with fail
  go_region_law_o (refine step_append_room rfl (.tmp 22) (.tmp 25) 46 rfl 79 i0 12 Try.underlying46 HI.out HS.out g 0 i c (by simp [Act.eval,Act.put]) A (n - (i+1)) (c - (i+1)) news (by simp [Act.eval,Act.put]) s1.out hsrc.out s2.out (by omega) s3.out ?_;rw [←hW.out])
  go_wp2_with fail
  rw [HCL.out _ _ _ _ (by omega) (by omega)];go_wp2
  go_ret
  refine ⟨by rw [show i+(n - (i+1))=n - 1 by omega];rfl, ?_⟩;rw [hW.out,Nat.zero_add,HN.out]
theorem sliDelete_calls (w:World) (base:Nat) (v:Value) (l:List S79) (i:Nat) (hr:Kd.R k79 79 w base (fun _=>True) v l) (hi:i<l.length):
  Calls Try.prog 166 #[v, .int .i64 i, .int .i64 (i+1)] w fun e w'=> ∃v',e= .returned v'∧Kd.R k79 79 w' base (fun _=>True) v' (l.take i++l.drop (i+1))∧Below base w w':=by
 obtain ⟨g,c,rfl,hg,hgl⟩:=sh_head hr (by omega)
 obtain ⟨_,_,hnc,hcm,cur,hh,hcs,ht⟩:=R_cells hr
 refine (sliDelete_cells w g l.length c i cur hh hcs hnc hcm hi (by rw [ht];exact flat_one l)).mono ?_
 rintro e w' ⟨rfl,rfl⟩
 have hlc:l.length*12≤cur.size:=by rw [hcs];exact Nat.mul_le_mul_right _ hnc
 rw [ht,flat_drop l (i+1) (by omega)]
 have hl1:(flat (l.drop (i+1))).length=(l.length - (i+1))*12:=by rw [flat_lenI,List.length_drop]
 obtain ⟨cur1,h1,s1,t1⟩:=setCells_row (flat (l.drop (i+1))) (i*12) w.drew cur (blk_drew hh) (by rw [hl1];omega)
 obtain ⟨cur2,h2,s2,t2⟩:=setCells_row zCells ((l.length - 1)*12) _ cur1 h1 (by rw [s1];show _+12≤_;omega)
 have hll:(l.take i++l.drop (i+1)).length=l.length - 1:=by simp;omega
 refine ⟨_,rfl, ?_,Below.setCells_ (Below.setCells_ (below_drew (Below.refl _ _)) hg _ _) hg _ _⟩
 have:=R_of_cells (l:=l.take i++l.drop (i+1)) hg (by rw [hll];omega) hcm h2 (by rw [s2,s1,hcs]) (by
  rw [hll,t2,t1,List.append_assoc,List.take_append_of_le_length (by simp [hl1,Array.length_toList];omega),List.take_take,Nat.min_self,
   List.take_append_of_le_length (by simp [hl1,Array.length_toList];omega),flat_append,←flat_take l i (by omega),←ht,List.take_take,Nat.min_eq_left (by omega)]
  exact List.take_of_length_le (by simp [hl1,Array.length_toList];omega))
 rw [hll] at this
 exact this
def shape_Delete.f (k:Nat) (l0:List (S79)) (a1:ByteArray) (a2:Int):Option ((List (S79))×Int):=
 (shape_made.f l0 a1).bind fun p=>(guardF p.1 p.2 a2).bind fun e=>if e≠0 then some ([],e) else (tree_Below.f k l0 a1).bind fun b=>if (b.length:Int)>0 then some ([],13) else
  if (rd_T79 p.1 p.2).f3.f0=0∧(rd_T79 p.1 p.2).f3.f1=0∧(rd_T79 p.1 p.2).f3.f2=0 then some (p.1.take p.2.toNat++p.1.drop (p.2.toNat+1),0) else some ([],13)
theorem shape_Delete.mono: ∀a0 a1 a2 k,LeO (shape_Delete.f k a0 a1 a2) (shape_Delete.f (k+1) a0 a1 a2):=by
 intro a0 a1 a2 k;unfold shape_Delete.f
 repeat' with_reducible first|apply tree_Below.mono|apply LeO.refl|apply LeO.none|apply LeO.ite|refine LeO.bind ?_ fun _=> ?_
theorem guard_zero {l:List S79} {j ver:Int} (h:guardF l j ver=some 0):0≤j∧j<(l.length:Int):=by
  unfold guardF at h
  split at h
  · cases h
  split at h
  · omega
  cases h
set_option maxHeartbeats 8000000 in
set_option maxRecDepth 100000 in
theorem shape_Delete.calls (k:Nat) (A0:Option Addr) (c0:Nat) (l0:List (S79)) (a1:ByteArray) (a2:Int) (r1:List (S79)) (r2:Int) (w:World) (hr0:Kd.C k79 w A0 l0.length l0) (hc0:l0.length≤c0) (h:shape_Delete.f k l0 a1 a2=some (r1,r2)):
    Calls Try.prog 141 #[.slice A0 l0.length c0, .string a1, .int .i64 a2] w fun e w'=> ∃v0_:Value,e= .returned (.tuple #[v0_, .int .i64 r2])∧Kd.R k79 79 w' w.heap.size (fun _=>True) v0_ r1∧Below w.heap.size w w':=by
  have hu197:=Try.underlying197;have hu195:=Try.underlying195;have hu79:=Try.underlying79;have hu37:=Try.underlying37;unfold shape_Delete.f at h;obtain ⟨⟨out,j⟩,hmd,h1⟩:=Option.bind_eq_some_iff.1 h;clear h;obtain ⟨e0,hgd,h2⟩:=Option.bind_eq_some_iff.1 h1;clear h1;dsimp only at hgd h2
  have hlim:out.length<1256584717458:=by
    unfold shape_made.f slices_Clone_Item.f at hmd
    split at hmd
    rotate_left
    · cases hmd
    obtain ⟨_,h1,h2⟩:=Option.bind_eq_some_iff.1 hmd;obtain ⟨_,h3,h4⟩:=Option.bind_eq_some_iff.1 h2;cases h4;cases h1
    assumption
  have HR:=Aside0.mk hr0;have HC:=Aside0.mk hc0;have HM:=Aside0.mk hmd;have HG:=Aside0.mk hgd;have HL:=Aside0.mk hlim;have HB:=am_ (Below.refl w.heap.size w);have HH:=Aside0.mk h2;clear hr0 hc0 hmd hgd h2 hlim;go_enter Try.func141,Try.ntmps141;go_wp2_with fail
  refine (shape_made.calls _ _ _ _ _ _ _ (Kd.C_below HR.out HB.out) HC.out HM.out).mono ?_;rintro e w3 ⟨v0,rfl,ho,hb⟩;have HO:=am_ (Kd.R_lower ho (below_size HB.out));have HLT:=am_ (Kd.R_lt ho);replace HB:=am_ (below_step HB.out hb);clear ho hb;obtain ⟨A5,c5,rfl⟩: ∃A5 c5,v0= .slice A5 out.length c5:=Kd.R_slice HO.out;go_wp2_with (first|((with_reducible refine gate_dst (N:=8) rfl ?_);refine bx_ (N:=8) (cs:=#[.slice none 0 0, .int .i64 0]) (t:=197) ?_;intro gb2 hg w4 hbox hb;replace HO:=am_ (Kd.R_below HO.out hb);have BK2:=am_ (hbox);have GE2:=am_ ((by rw [hg];exact below_size HB.out:w.heap.size≤gb2));replace HB:=am_ (below_step HB.out hb);have EQ2:=am_ (hg);clear hb hbox hg)|((with_reducible refine gate_store (t:=197) (p:=8) (v:= .tmp 12) rfl ?_);refine store_all BK2.out 197 (.tmp 8) (.tmp 12) rfl rfl rfl (.agg #[.slice A5 out.length c5, .int .i64 j]) [.slice A5 out.length c5, .int .i64 j] rfl rfl rfl (by kernel_rfl) rfl (by intro q hq;simp only [List.mem_cons,List.not_mem_nil,or_false] at hq;rcases hq with rfl|rfl<;>rfl) ?_;intro w5 hbk hg;replace HO:=am_ (R_put HO.out BK2.out (by decide) hg);replace HB:=am_ (below_put HB.out (below_size HB.out) hg GE2.out);replace BK2:=am_ (hbk);clear hbk hg;obtain ⟨cgb2_0,cgb2_1⟩:=xz2_ BK2))
  refine (shapeGuard_calls _ _ _ out j a2 e0 HO.out HG.out).mono ?_;rintro e w6 ⟨rfl,hb⟩;clear cgb2_0 cgb2_1;replace HO:=am_ (Kd.R_below HO.out hb);replace BK2:=am_ (blk_below BK2.out hb);replace HB:=am_ (below_step HB.out hb);clear hb;obtain ⟨cgb2_0,cgb2_1⟩:=xz2_ BK2;have h2:=HH.out;clear HH;by_cases c1:e0=0;rotate_left
  · rw [if_pos c1] at h2
    cases h2
    have q1:(r2==0)=false:=by simpa using c1
    go_wp2_with fail
    go_ret2
    exact ⟨_,rfl,Kd.R_nil _ _ _ _ _,HB.out⟩


  cases c1;rw [if_neg (by simp)] at h2;obtain ⟨hj0,hj1⟩:=guard_zero HG.out;obtain ⟨bl,hbl,h3⟩:=Option.bind_eq_some_iff.1 h2;have HBL:=Aside0.mk hbl;have HH:=Aside0.mk h3;clear h2 h3 hbl;go_wp2_with fail
  refine (tree_Below.calls k _ _ _ _ _ _ (Kd.C_below HR.out HB.out) HC.out HBL.out).mono ?_;rintro e w7 ⟨vb,rfl,hob,hb⟩;clear cgb2_0 cgb2_1;replace HO:=am_ (Kd.R_below HO.out hb);replace BK2:=am_ (blk_below BK2.out hb);replace HB:=am_ (below_step HB.out hb);obtain ⟨cgb2_0,cgb2_1⟩:=xz2_ BK2;obtain ⟨Ab,cb,rfl⟩:=Kd.R_slice hob;clear hb hob;have h3:=HH.out;clear HH;by_cases c2:(bl.length:Int)>0
  · rw [if_pos c2] at h3
    cases h3
    have q2:(0<bl.length)=True:=eq_true (by omega)
    clear c2
    go_wp2_with fail
    go_ret2
    exact ⟨_,rfl,Kd.R_nil _ _ _ _ _,HB.out⟩
  rw [if_neg c2] at h3;obtain rfl:bl=[]:=List.length_eq_zero_iff.1 (by omega);clear c2;obtain ⟨gb,cap,hv0,hgb,hgl⟩:=sh_head HO.out (by omega);cases hv0;have hcs:=sh_cells HO.out j hj0 hj1;have HCS:=Aside0.mk hcs;have HGL:=Aside0.mk hgl;have HJ0:=Aside0.mk hj0;have HJ1:=Aside0.mk hj1;have HH:=Aside0.mk h3;clear hcs hgl h3 hgb hj0 hj1;go_wp2_with fail
  refine (shapeItem_calls _ ⟨gb,0,none⟩ out.length c5 j HJ0.out HJ1.out).mono ?_;rintro e w8 ⟨rfl,hb⟩;clear cgb2_0 cgb2_1;have k5:=(hb.cell (p:=⟨gb,j.toNat*12+5,none⟩) HGL.out).trans (HCS.out 5 _ rfl);have k6:=(hb.cell (p:=⟨gb,j.toNat*12+6,none⟩) HGL.out).trans (HCS.out 6 _ rfl);have k7:=(hb.cell (p:=⟨gb,j.toNat*12+7,none⟩) HGL.out).trans (HCS.out 7 _ rfl);replace HO:=am_ (Kd.R_below HO.out hb);replace BK2:=am_ (blk_below BK2.out hb);replace HB:=am_ (below_step HB.out hb);obtain ⟨cgb2_0,cgb2_1⟩:=xz2_ BK2;have h3:=HH.out;clear HH hb HCS;generalize rd_T79 out j=y at k5 k6 k7 h3;by_cases c3:y.f3.f0=0∧y.f3.f1=0∧y.f3.f2=0
  · rw [if_pos c3] at h3
    cases h3
    obtain ⟨q3,q4,q5⟩:=c3
    rw [q3] at k5
    rw [q4] at k6
    rw [q5] at k7
    go_wp2_with fail
    have ej:((j.toNat:Nat):Int)=j:=Int.toNat_of_nonneg HJ0.out
    have hl:=HL.out
    have hj1:=HJ1.out
    refine calls_of_args (args':=#[.slice (some ⟨gb,0,none⟩) out.length c5, .int .i64 (j.toNat:Int), .int .i64 ((j.toNat:Int)+1)]) (by rw [ej,show wrap64 (j+1)=j+1 from by unfold wrap64;omega]) ((sliDelete_calls _ w.heap.size _ out j.toNat HO.out (by omega)).mono ?_)
    rintro e w9 ⟨v1,rfl,ho,hb⟩
    have HO9:=Aside0.mk ho
    have HB9:=am_ (HB.out.trans hb)
    clear ho hb
    go_wp2_with fail
    go_ret2
    exact ⟨_,rfl,HO9.out,HB9.out⟩
  rw [if_neg c3] at h3;cases h3;by_cases q3:y.f3.f0=0;rotate_left
  · have q3b : (y.f3.f0 == 0) = false := by simpa using q3
    clear c3
    go_wp2_with fail
    go_ret2
    exact ⟨_,rfl,Kd.R_nil _ _ _ _ _,HB.out⟩
  rw [q3] at k5;by_cases q4:y.f3.f1=0;rotate_left
  · have q4b : (y.f3.f1 == 0) = false := by simpa using q4
    clear c3
    go_wp2_with fail
    go_ret2
    exact ⟨_,rfl,Kd.R_nil _ _ _ _ _,HB.out⟩
  rw [q4] at k6;have q5: ¬y.f3.f2=0:=fun e=>c3 ⟨q3,q4,e⟩
  have q5b:(y.f3.f2==0)=false:=by simpa using q5
  clear c3;go_wp2_with fail
  go_ret2
  exact ⟨_,rfl,Kd.R_nil _ _ _ _ _,HB.out⟩
def shape_Do.f (k:Nat) (l0:List (S79)) (a1_0:Int) (a1_1:ByteArray) (a1_2:ByteArray) (a1_3:Int) (a1_4:Int) (a1_5:Int) (a2:Int):Option ((List (S79))×Int):=if a1_0=1 then ((shape_Create.f l0 a1_1 a1_2 a1_3 a1_4 a1_5).bind fun bt2=>(some (bt2.1,bt2.2))) else (if a1_0=2 then ((shape_Limit.f l0 a1_1 a1_3 a1_4 a1_5 a2).bind fun bt6=>(some (bt6.1,bt6.2))) else (if a1_0=3 then ((shape_Move.f k l0 a1_1 a1_2 a2).bind fun bt10=>(some (bt10.1,bt10.2))) else (if a1_0=4 then ((shape_Delete.f k l0 a1_1 a2).bind fun bt14=>(some (bt14.1,bt14.2))) else (some (([]:List (S79)),1)))))
theorem shape_Do.mono: ∀a0 a1 a2 a3 a4 a5 a6 a7 k,LeO (shape_Do.f k a0 a1 a2 a3 a4 a5 a6 a7) (shape_Do.f (k+1) a0 a1 a2 a3 a4 a5 a6 a7):=by
 intro a0 a1 a2 a3 a4 a5 a6 a7 k;unfold shape_Do.f
 repeat' with_reducible first|apply shape_Delete.mono|apply shape_Move.mono|apply LeO.refl|apply LeO.none|apply LeO.ite|refine LeO.bind ?_ fun _=> ?_
set_option maxHeartbeats 8000000 in
set_option maxRecDepth 100000 in
theorem shape_Do.calls (k:Nat) (A0:Option Addr) (c0:Nat) (l0:List (S79)) (a1_0:Int) (a1_1:ByteArray) (a1_2:ByteArray) (a1_3:Int) (a1_4:Int) (a1_5:Int) (a2:Int) (r1:List (S79)) (r2:Int) (w:World) (hr0:Kd.C k79 w A0 l0.length l0) (hc0:l0.length≤c0) (h:shape_Do.f k l0 a1_0 a1_1 a1_2 a1_3 a1_4 a1_5 a2=some (r1,r2)):
  Calls Try.prog 105 #[.slice A0 l0.length c0, .agg #[.int .i64 a1_0, .string a1_1, .string a1_2, .int .i64 a1_3, .int .i64 a1_4, .int .i64 a1_5], .int .i64 a2] w fun e w'=> ∃v0_:Value,e= .returned (.tuple #[v0_, .int .i64 r2])∧Kd.R k79 79 w' w.heap.size (fun _=>True) v0_ r1∧Below w.heap.size w w':=by
 have hu76:=Try.underlying76;have hu37:=Try.underlying37;have HR0:=Aside0.mk hr0;have HC0:=Aside0.mk hc0;clear hr0 hc0;have HB:=am_ (Below.refl w.heap.size w);have H:(if a1_0=1 then ((shape_Create.f l0 a1_1 a1_2 a1_3 a1_4 a1_5).bind fun bt2=>(some (bt2.1,bt2.2))) else (if a1_0=2 then ((shape_Limit.f l0 a1_1 a1_3 a1_4 a1_5 a2).bind fun bt6=>(some (bt6.1,bt6.2))) else (if a1_0=3 then ((shape_Move.f k l0 a1_1 a1_2 a2).bind fun bt10=>(some (bt10.1,bt10.2))) else (if a1_0=4 then ((shape_Delete.f k l0 a1_1 a2).bind fun bt14=>(some (bt14.1,bt14.2))) else (some (([]:List (S79)),1))))))=some (r1,r2):=h;clear h;by_cases c4:a1_0=1
 ·rw [if_pos c4] at H;have c4b0:=beq_iff_eq.mpr c4;have c4b1:=bne_eq_false_iff_eq.mpr c4;clear c4;replace H:=zbd_ H;obtain ⟨⟨t2,t5⟩,A5,H⟩:=H;try dsimp only at H
  simp only [Option.some.injEq,Prod.mk.injEq] at H;obtain ⟨rfl,rfl⟩:=H;go_enter Try.func105,Try.ntmps105;go_wp2_with (first|((with_reducible refine gate_dst (N:=4) rfl ?_);refine bx_ (N:=4) (cs:=#[.int .i64 a1_0, .string a1_1, .string a1_2, .int .i64 a1_3, .int .i64 a1_4, .int .i64 a1_5]) (t:=76) ?_;intro gb1 hg w6 hbox hb;have BK1:=am_ (hbox);have GE1:=am_ ((zg0_ HB hg:w.heap.size≤gb1));replace HB:=am_ (below_step (zl0_ HB) hb);clear hb hbox hg;obtain ⟨_,_,_,_,_,_⟩:=x6_ BK1;obtain ⟨_,_,_,_,_,_⟩:=ff6_ BK1)|((with_reducible refine gate_callee (f:=138) rfl ?_);refine gl_ (some 19) Try.func138 #[.slice A0 l0.length c0, .string a1_1, .string a1_2, .agg #[.int .i64 a1_3, .int .i64 a1_4, .int .i64 a1_5]] ?_;(with_reducible refine (shape_Create.calls _ _ l0 a1_1 a1_2 a1_3 a1_4 a1_5 t2 t5 _ ?side1 ?side2 A5.out).mono ?_);(case side1=>exact zc_ (Kd.C_below HR0.out HB.out));(case side2=>exact HC0.out);rintro e w8 ⟨v3,rfl,ho0,hb⟩;refine ⟨_,rfl, ?_⟩;have HO4:=am_ (Kd.R_lower ho0 (below_size (zl1_ HB GE1)));replace BK1:=bb_ BK1 hb;replace HB:=am_ (below_step (zl1_ HB GE1) hb);(try clear hb ho0)))
  go_ret2
  exact ⟨_,er_,zr_ HO4,zl1_ HB GE1⟩
 rw [if_neg c4] at H;have c4b0:=beq_eq_false_iff_ne.mpr c4;have c4b1:=bne_iff_ne.mpr c4;by_cases c9:a1_0=2
 ·rw [if_pos c9] at H;have c9b0:=beq_iff_eq.mpr c9;have c9b1:=bne_eq_false_iff_eq.mpr c9;clear c9;replace H:=zbd_ H;obtain ⟨⟨t6,t9⟩,A10,H⟩:=H;try dsimp only at H
  simp only [Option.some.injEq,Prod.mk.injEq] at H;obtain ⟨rfl,rfl⟩:=H;go_enter Try.func105,Try.ntmps105;go_wp2_with (first|((with_reducible refine gate_dst (N:=4) rfl ?_);refine bx_ (N:=4) (cs:=#[.int .i64 a1_0, .string a1_1, .string a1_2, .int .i64 a1_3, .int .i64 a1_4, .int .i64 a1_5]) (t:=76) ?_;intro gb1 hg w11 hbox hb;have BK1:=am_ (hbox);have GE1:=am_ ((zg0_ HB hg:w.heap.size≤gb1));replace HB:=am_ (below_step (zl0_ HB) hb);clear hb hbox hg;obtain ⟨_,_,_,_,_,_⟩:=x6_ BK1;obtain ⟨_,_,_,_,_,_⟩:=ff6_ BK1)|((with_reducible refine gate_callee (f:=139) rfl ?_);refine gl_ (some 30) Try.func139 #[.slice A0 l0.length c0, .string a1_1, .agg #[.int .i64 a1_3, .int .i64 a1_4, .int .i64 a1_5], .int .i64 a2] ?_;(with_reducible refine (shape_Limit.calls _ _ l0 a1_1 a1_3 a1_4 a1_5 a2 t6 t9 _ ?side1 ?side2 A10.out).mono ?_);(case side1=>exact zc_ (Kd.C_below HR0.out HB.out));(case side2=>exact HC0.out);rintro e w13 ⟨v7,rfl,ho0,hb⟩;refine ⟨_,rfl, ?_⟩;have HO8:=am_ (Kd.R_lower ho0 (below_size (zl1_ HB GE1)));replace BK1:=bb_ BK1 hb;replace HB:=am_ (below_step (zl1_ HB GE1) hb);(try clear hb ho0)))
  go_ret2
  exact ⟨_,er_,zr_ HO8,zl1_ HB GE1⟩
 rw [if_neg c9] at H;have c9b0:=beq_eq_false_iff_ne.mpr c9;have c9b1:=bne_iff_ne.mpr c9;by_cases c14:a1_0=3
 ·rw [if_pos c14] at H;have c14b0:=beq_iff_eq.mpr c14;have c14b1:=bne_eq_false_iff_eq.mpr c14;clear c14;replace H:=zbd_ H;obtain ⟨⟨t10,t11⟩,A15,H⟩:=H;try dsimp only at H
  simp only [Option.some.injEq,Prod.mk.injEq] at H;obtain ⟨rfl,rfl⟩:=H;go_enter Try.func105,Try.ntmps105;go_wp2_with (first|((with_reducible refine gate_dst (N:=4) rfl ?_);refine bx_ (N:=4) (cs:=#[.int .i64 a1_0, .string a1_1, .string a1_2, .int .i64 a1_3, .int .i64 a1_4, .int .i64 a1_5]) (t:=76) ?_;intro gb1 hg w16 hbox hb;have BK1:=am_ (hbox);have GE1:=am_ ((zg0_ HB hg:w.heap.size≤gb1));replace HB:=am_ (below_step (zl0_ HB) hb);clear hb hbox hg;obtain ⟨_,_,_,_,_,_⟩:=x6_ BK1;obtain ⟨_,_,_,_,_,_⟩:=ff6_ BK1)|((with_reducible refine gate_callee (f:=140) rfl ?_);refine gl_ (some 41) Try.func140 #[.slice A0 l0.length c0, .string a1_1, .string a1_2, .int .i64 a2] ?_;(with_reducible refine (shape_Move.calls k _ _ l0 a1_1 a1_2 a2 t10 t11 _ ?side1 ?side2 A15.out).mono ?_);(case side1=>exact zc_ (Kd.C_below HR0.out HB.out));(case side2=>exact HC0.out);rintro e w18 ⟨v12,rfl,ho0,hb⟩;refine ⟨_,rfl, ?_⟩;have HO13:=am_ (Kd.R_lower ho0 (below_size (zl1_ HB GE1)));replace BK1:=bb_ BK1 hb;replace HB:=am_ (below_step (zl1_ HB GE1) hb);(try clear hb ho0)))
  go_ret2
  exact ⟨_,er_,zr_ HO13,zl1_ HB GE1⟩
 rw [if_neg c14] at H;have c14b0:=beq_eq_false_iff_ne.mpr c14;have c14b1:=bne_iff_ne.mpr c14;by_cases c19:a1_0=4;rotate_left
 ·rw [if_neg c19] at H;have c19b0:=beq_eq_false_iff_ne.mpr c19;have c19b1:=bne_iff_ne.mpr c19;simp only [Option.some.injEq,Prod.mk.injEq] at H;obtain ⟨rfl,rfl⟩:=H;go_enter Try.func105,Try.ntmps105;go_wp2_with (first|((with_reducible refine gate_dst (N:=4) rfl ?_);refine bx_ (N:=4) (cs:=#[.int .i64 a1_0, .string a1_1, .string a1_2, .int .i64 a1_3, .int .i64 a1_4, .int .i64 a1_5]) (t:=76) ?_;intro gb1 hg w24 hbox hb;have BK1:=am_ (hbox);have GE1:=am_ ((zg0_ HB hg:w.heap.size≤gb1));replace HB:=am_ (below_step (zl0_ HB) hb);clear hb hbox hg;obtain ⟨_,_,_,_,_,_⟩:=x6_ BK1;obtain ⟨_,_,_,_,_,_⟩:=ff6_ BK1))
  go_ret2
  exact ⟨_,er_,by first|exact Kd.R_nil _ _ _ _ _|exact Kd.N_nil _ _ _ _ _|exact Kd.V_nil _ _ _ _ _|exact Kd.Q_nil _ _ _ _ _|exact Kd.S_nil _ _ _ _ _,zl1_ HB GE1⟩

 rw [if_pos c19] at H;have c19b0:=beq_iff_eq.mpr c19;have c19b1:=bne_eq_false_iff_eq.mpr c19;clear c19;replace H:=zbd_ H;obtain ⟨⟨t14,t15⟩,A20,H⟩:=H;try dsimp only at H
 simp only [Option.some.injEq,Prod.mk.injEq] at H;obtain ⟨rfl,rfl⟩:=H;go_enter Try.func105,Try.ntmps105;go_wp2_with (first|((with_reducible refine gate_dst (N:=4) rfl ?_);refine bx_ (N:=4) (cs:=#[.int .i64 a1_0, .string a1_1, .string a1_2, .int .i64 a1_3, .int .i64 a1_4, .int .i64 a1_5]) (t:=76) ?_;intro gb1 hg w21 hbox hb;have BK1:=am_ (hbox);have GE1:=am_ ((zg0_ HB hg:w.heap.size≤gb1));replace HB:=am_ (below_step (zl0_ HB) hb);clear hb hbox hg;obtain ⟨_,_,_,_,_,_⟩:=x6_ BK1;obtain ⟨_,_,_,_,_,_⟩:=ff6_ BK1)|((with_reducible refine gate_callee (f:=141) rfl ?_);refine gl_ (some 50) Try.func141 #[.slice A0 l0.length c0, .string a1_1, .int .i64 a2] ?_;(with_reducible refine (shape_Delete.calls k _ _ l0 a1_1 a2 t14 t15 _ ?side1 ?side2 A20.out).mono ?_);(case side1=>exact zc_ (Kd.C_below HR0.out HB.out));(case side2=>exact HC0.out);rintro e w23 ⟨v16,rfl,ho0,hb⟩;refine ⟨_,rfl, ?_⟩;have HO17:=am_ (Kd.R_lower ho0 (below_size (zl1_ HB GE1)));replace BK1:=bb_ BK1 hb;replace HB:=am_ (below_step (zl1_ HB GE1) hb);(try clear hb ho0)))
 go_ret2
 exact ⟨_,er_,zr_ HO17,zl1_ HB GE1⟩
def effect_find.f (l:List S79) (n:ByteArray):Option (ByteArray×ByteArray×Int×Int×Int×Int×Int×Int×Int×Int×Int×Int×Bool):=(tree_Find.f l n).bind fun t=>if t≥0 then (if t<(l.length:Int) then some ((rd_T79 l t).f0,(rd_T79 l t).f1,(rd_T79 l t).f2.f0,(rd_T79 l t).f2.f1,(rd_T79 l t).f2.f2,(rd_T79 l t).f3.f0,(rd_T79 l t).f3.f1,(rd_T79 l t).f3.f2,(rd_T79 l t).f4.f0,(rd_T79 l t).f4.f1,(rd_T79 l t).f4.f2,(rd_T79 l t).f5,true) else none) else some ((⟨#[]⟩:ByteArray),(⟨#[]⟩:ByteArray),0,0,0,0,0,0,0,0,0,0,false)
set_option maxHeartbeats 8000000 in
set_option maxRecDepth 100000 in
theorem effFind_calls (A:Option Addr) (c:Nat) (l:List S79) (n:ByteArray) (r2 r3:ByteArray) (r4 r5 r6 r7 r8 r9 r10 r11 r12 r13:Int) (r14:Bool) (w:World) (hr:Kd.C k79 w A l.length l) (hc:l.length≤c) (h:effect_find.f l n=some (r2,r3,r4,r5,r6,r7,r8,r9,r10,r11,r12,r13,r14)):
    Calls Try.prog 137 #[.slice A l.length c, .string n] w fun e w'=>e= .returned (.agg #[.slice A l.length c, .string r2, .string r3, .int .i64 r4, .int .i64 r5, .int .i64 r6, .int .i64 r7, .int .i64 r8, .int .i64 r9, .int .i64 r10, .int .i64 r11, .int .i64 r12, .int .i64 r13, .bool r14])∧Below w.heap.size w w':=by
  have hu180:=Try.underlying180;have hu178:=Try.underlying178;have hu79:=Try.underlying79;obtain ⟨t,ht,h⟩:=Option.bind_eq_some_iff.1 h;have HR:=Aside0.mk hr;have HC:=Aside0.mk hc;have HT:=Aside0.mk ht;have HH:=Aside0.mk h;have HB:=am_ (Below.refl w.heap.size w);clear hr hc ht h;go_enter Try.func137,Try.ntmps137
  go_wp2_with (first|((with_reducible refine gate_dst (N:=4) rfl ?_);refine bx_ (N:=4) (cs:=#[.slice none 0 0, .string ⟨#[]⟩, .string ⟨#[]⟩, .int .i64 0, .int .i64 0, .int .i64 0, .int .i64 0, .int .i64 0, .int .i64 0, .int .i64 0, .int .i64 0, .int .i64 0, .int .i64 0, .bool false]) (t:=180) ?_;intro gb4 hg w1 hbox hb;have BK4:=am_ (hbox);have GE4:=am_ ((by rw [hg];exact below_size HB.out:w.heap.size≤gb4));replace HB:=am_ (below_step HB.out hb);have EQ4:=am_ (hg);clear hb hbox hg)|((with_reducible refine gate_dst (N:=5) rfl ?_);refine bx_ (N:=5) (cs:=#[.slice none 0 0, .string ⟨#[]⟩, .string ⟨#[]⟩, .int .i64 0, .int .i64 0, .int .i64 0, .int .i64 0, .int .i64 0, .int .i64 0, .int .i64 0, .int .i64 0, .int .i64 0, .int .i64 0, .bool false]) (t:=180) ?_;intro gb5 hg w2 hbox hb;have NE:=am_ (show gb4≠gb5 from by have:=blk_lt BK4.out;rw [hg];exact Nat.ne_of_lt this);replace BK4:=am_ (blk_below BK4.out hb);have BK5:=am_ (hbox);have GE5:=am_ ((by rw [hg];exact below_size HB.out:w.heap.size≤gb5));replace HB:=am_ (below_step HB.out hb);have EQ5:=am_ (hg);clear hb hbox hg;obtain ⟨cgb5_0,cgb5_1,cgb5_2,cgb5_3,cgb5_4,cgb5_5,cgb5_6,cgb5_7,cgb5_8,cgb5_9,cgb5_10,cgb5_11,cgb5_12,cgb5_13⟩:=xz14_ BK5)|((with_reducible refine gate_store (t:=180) (p:=5) (v:= .tmp 9) rfl ?_);refine store_all BK5.out 180 (.tmp 5) (.tmp 9) rfl rfl rfl (.agg #[.slice A l.length c, .string ⟨#[]⟩, .string ⟨#[]⟩, .int .i64 0, .int .i64 0, .int .i64 0, .int .i64 0, .int .i64 0, .int .i64 0, .int .i64 0, .int .i64 0, .int .i64 0, .int .i64 0, .bool false]) [.slice A l.length c, .string ⟨#[]⟩, .string ⟨#[]⟩, .int .i64 0, .int .i64 0, .int .i64 0, .int .i64 0, .int .i64 0, .int .i64 0, .int .i64 0, .int .i64 0, .int .i64 0, .int .i64 0, .bool false] rfl rfl rfl (by kernel_rfl) rfl (by intro q hq;simp only [List.mem_cons,List.not_mem_nil,or_false] at hq;rcases hq with rfl|rfl|rfl|rfl|rfl|rfl|rfl|rfl|rfl|rfl|rfl|rfl|rfl|rfl<;>rfl) ?_;intro w3 hbk hg;clear cgb5_0 cgb5_1 cgb5_2 cgb5_3 cgb5_4 cgb5_5 cgb5_6 cgb5_7 cgb5_8 cgb5_9 cgb5_10 cgb5_11 cgb5_12 cgb5_13;replace BK4:=am_ (blk_put_other BK4.out hg (NE.out));replace HB:=am_ (below_put HB.out (below_size HB.out) hg GE5.out);replace BK5:=am_ (hbk);clear hbk hg;obtain ⟨cgb5_0,cgb5_1,cgb5_2,cgb5_3,cgb5_4,cgb5_5,cgb5_6,cgb5_7,cgb5_8,cgb5_9,cgb5_10,cgb5_11,cgb5_12,cgb5_13⟩:=xz14_ BK5))
  refine (tree_Find.calls _ _ l n t _ (Kd.C_below HR.out HB.out) HC.out HT.out).mono ?_;rintro e w4 ⟨rfl,hb⟩;have n0_:=am_ (blk_below BK4.out hb);have n1_:=am_ (blk_below BK5.out hb);have n2_:=am_ (below_step HB.out hb);clear BK4 BK5 HB hb cgb5_0 cgb5_1 cgb5_2 cgb5_3 cgb5_4 cgb5_5 cgb5_6 cgb5_7 cgb5_8 cgb5_9 cgb5_10 cgb5_11 cgb5_12 cgb5_13;have BK4:=n0_;have BK5:=n1_;have HB:=n2_;clear n0_ n1_ n2_;have h:=HH.out;clear HH;by_cases c1:t≥0;rotate_left
  · rw [if_neg c1] at h
    have c1b:decide (0≤t)=false:=decide_eq_false c1
    simp only [Option.some.injEq,Prod.mk.injEq] at h
    obtain ⟨rfl,rfl,rfl,rfl,rfl,rfl,rfl,rfl,rfl,rfl,rfl,rfl,rfl⟩:=h
    clear c1
    obtain ⟨cgb5_0,cgb5_1,cgb5_2,cgb5_3,cgb5_4,cgb5_5,cgb5_6,cgb5_7,cgb5_8,cgb5_9,cgb5_10,cgb5_11,cgb5_12,cgb5_13⟩:=xz14_ BK5
    go_wp2_with (first|((with_reducible refine gate_store (t:=180) (p:=4) (v:= .tmp 21) rfl ?_);refine store_all BK4.out 180 (.tmp 4) (.tmp 21) rfl rfl rfl (.agg #[.slice A l.length c, .string ⟨#[]⟩, .string ⟨#[]⟩, .int .i64 0, .int .i64 0, .int .i64 0, .int .i64 0, .int .i64 0, .int .i64 0, .int .i64 0, .int .i64 0, .int .i64 0, .int .i64 0, .bool false]) [.slice A l.length c, .string ⟨#[]⟩, .string ⟨#[]⟩, .int .i64 0, .int .i64 0, .int .i64 0, .int .i64 0, .int .i64 0, .int .i64 0, .int .i64 0, .int .i64 0, .int .i64 0, .int .i64 0, .bool false] rfl rfl rfl (by kernel_rfl) rfl (by intro q hq;simp only [List.mem_cons,List.not_mem_nil,or_false] at hq;rcases hq with rfl|rfl|rfl|rfl|rfl|rfl|rfl|rfl|rfl|rfl|rfl|rfl|rfl|rfl<;>rfl) ?_;intro w7 hbk hg;replace BK5:=am_ (blk_put_other BK5.out hg (fun e=>NE.out e.symm));replace HB:=am_ (below_put HB.out (below_size HB.out) hg GE4.out);replace BK4:=am_ (hbk);clear hbk hg))
    refine bodyPost_ret (results_cell_row rfl _ _ gb4 180 #[.slice A l.length c, .string ⟨#[]⟩, .string ⟨#[]⟩, .int .i64 0, .int .i64 0, .int .i64 0, .int .i64 0, .int .i64 0, .int .i64 0, .int .i64 0, .int .i64 0, .int .i64 0, .int .i64 0, .bool false] (0,0) _ rfl BK4.out Try.underlying180 rfl (by kernel_rfl)) rfl ?_
    exact ⟨rfl,HB.out⟩


  rw [if_pos c1] at h;have c1b:decide (0≤t)=true:=decide_eq_true c1;by_cases c2:t<(l.length:Int);rotate_left
  · rw [if_neg c2] at h
    cases h
  rw [if_pos c2] at h;simp only [Option.some.injEq,Prod.mk.injEq] at h;obtain ⟨rfl,rfl,rfl,rfl,rfl,rfl,rfl,rfl,rfl,rfl,rfl,rfl,rfl⟩:=h;have p6:0≤t:=c1;have q6:t<(l.length:Int):=c2;obtain ⟨ad,e6,k0,k1,k2,k3,k4,k5,k6,k7,k8,k9,k10,k11⟩:=at_T79 HR.out t p6 q6;cases e6;have k0:=zx_ HB k0;have k1:=zx_ HB k1;have k2:=zx_ HB k2;have k3:=zx_ HB k3;have k4:=zx_ HB k4;have k5:=zx_ HB k5;have k6:=zx_ HB k6;have k7:=zx_ HB k7;have k8:=zx_ HB k8;have k9:=zx_ HB k9;have k10:=zx_ HB k10;have k11:=zx_ HB k11;replace p6:=eq_true p6;replace q6:=eq_true q6;clear c1 c2;obtain ⟨cgb5_0,cgb5_1,cgb5_2,cgb5_3,cgb5_4,cgb5_5,cgb5_6,cgb5_7,cgb5_8,cgb5_9,cgb5_10,cgb5_11,cgb5_12,cgb5_13⟩:=xz14_ BK5
  go_wp2_with (first|((with_reducible refine gate_store (t:=79) (p:=19) (v:= .tmp 18) rfl ?_);refine store_part BK5.out 79 (.tmp 19) (.tmp 18) rfl rfl rfl 1 (.agg #[.string (rd_T79 l t).f0, .string (rd_T79 l t).f1, .int .i64 (rd_T79 l t).f2.f0, .int .i64 (rd_T79 l t).f2.f1, .int .i64 (rd_T79 l t).f2.f2, .int .i64 (rd_T79 l t).f3.f0, .int .i64 (rd_T79 l t).f3.f1, .int .i64 (rd_T79 l t).f3.f2, .int .i64 (rd_T79 l t).f4.f0, .int .i64 (rd_T79 l t).f4.f1, .int .i64 (rd_T79 l t).f4.f2, .int .i64 (rd_T79 l t).f5]) [.string (rd_T79 l t).f0, .string (rd_T79 l t).f1, .int .i64 (rd_T79 l t).f2.f0, .int .i64 (rd_T79 l t).f2.f1, .int .i64 (rd_T79 l t).f2.f2, .int .i64 (rd_T79 l t).f3.f0, .int .i64 (rd_T79 l t).f3.f1, .int .i64 (rd_T79 l t).f3.f2, .int .i64 (rd_T79 l t).f4.f0, .int .i64 (rd_T79 l t).f4.f1, .int .i64 (rd_T79 l t).f4.f2, .int .i64 (rd_T79 l t).f5] [.slice (some ad) l.length c, .string (rd_T79 l t).f0, .string (rd_T79 l t).f1, .int .i64 (rd_T79 l t).f2.f0, .int .i64 (rd_T79 l t).f2.f1, .int .i64 (rd_T79 l t).f2.f2, .int .i64 (rd_T79 l t).f3.f0, .int .i64 (rd_T79 l t).f3.f1, .int .i64 (rd_T79 l t).f3.f2, .int .i64 (rd_T79 l t).f4.f0, .int .i64 (rd_T79 l t).f4.f1, .int .i64 (rd_T79 l t).f4.f2, .int .i64 (rd_T79 l t).f5, .bool false] rfl rfl rfl (by kernel_rfl) (Nat.le_of_ble_eq_true (by kernel_rfl)) (by intro q hq;simp only [List.mem_cons,List.not_mem_nil,or_false] at hq;rcases hq with rfl|rfl|rfl|rfl|rfl|rfl|rfl|rfl|rfl|rfl|rfl|rfl<;>rfl) (by kernel_rfl) ?_;intro w5 hbk hg;clear cgb5_0 cgb5_1 cgb5_2 cgb5_3 cgb5_4 cgb5_5 cgb5_6 cgb5_7 cgb5_8 cgb5_9 cgb5_10 cgb5_11 cgb5_12 cgb5_13;replace BK4:=am_ (blk_put_other BK4.out hg (NE.out));replace HB:=am_ (below_put HB.out (below_size HB.out) hg GE5.out);replace BK5:=am_ (hbk);clear hbk hg;obtain ⟨cgb5_0,cgb5_1,cgb5_2,cgb5_3,cgb5_4,cgb5_5,cgb5_6,cgb5_7,cgb5_8,cgb5_9,cgb5_10,cgb5_11,cgb5_12,cgb5_13⟩:=xz14_ BK5)|((with_reducible refine gate_store (t:=4) (p:=20) (v:= .const (.bool true)) rfl ?_);refine store_part BK5.out 4 (.tmp 20) (.const (.bool true)) rfl rfl rfl 13 (.bool true) [.bool true] [.slice (some ad) l.length c, .string (rd_T79 l t).f0, .string (rd_T79 l t).f1, .int .i64 (rd_T79 l t).f2.f0, .int .i64 (rd_T79 l t).f2.f1, .int .i64 (rd_T79 l t).f2.f2, .int .i64 (rd_T79 l t).f3.f0, .int .i64 (rd_T79 l t).f3.f1, .int .i64 (rd_T79 l t).f3.f2, .int .i64 (rd_T79 l t).f4.f0, .int .i64 (rd_T79 l t).f4.f1, .int .i64 (rd_T79 l t).f4.f2, .int .i64 (rd_T79 l t).f5, .bool true] rfl rfl rfl (by kernel_rfl) (Nat.le_of_ble_eq_true (by kernel_rfl)) (by intro q hq;simp only [List.mem_cons,List.not_mem_nil,or_false] at hq;rcases hq with rfl<;>rfl) (by kernel_rfl) ?_;intro w6 hbk hg;clear cgb5_0 cgb5_1 cgb5_2 cgb5_3 cgb5_4 cgb5_5 cgb5_6 cgb5_7 cgb5_8 cgb5_9 cgb5_10 cgb5_11 cgb5_12 cgb5_13;replace BK4:=am_ (blk_put_other BK4.out hg (NE.out));replace HB:=am_ (below_put HB.out (below_size HB.out) hg GE5.out);replace BK5:=am_ (hbk);clear hbk hg;obtain ⟨cgb5_0,cgb5_1,cgb5_2,cgb5_3,cgb5_4,cgb5_5,cgb5_6,cgb5_7,cgb5_8,cgb5_9,cgb5_10,cgb5_11,cgb5_12,cgb5_13⟩:=xz14_ BK5)|((with_reducible refine gate_store (t:=180) (p:=4) (v:= .tmp 21) rfl ?_);refine store_all BK4.out 180 (.tmp 4) (.tmp 21) rfl rfl rfl (.agg #[.slice (some ad) l.length c, .string (rd_T79 l t).f0, .string (rd_T79 l t).f1, .int .i64 (rd_T79 l t).f2.f0, .int .i64 (rd_T79 l t).f2.f1, .int .i64 (rd_T79 l t).f2.f2, .int .i64 (rd_T79 l t).f3.f0, .int .i64 (rd_T79 l t).f3.f1, .int .i64 (rd_T79 l t).f3.f2, .int .i64 (rd_T79 l t).f4.f0, .int .i64 (rd_T79 l t).f4.f1, .int .i64 (rd_T79 l t).f4.f2, .int .i64 (rd_T79 l t).f5, .bool true]) [.slice (some ad) l.length c, .string (rd_T79 l t).f0, .string (rd_T79 l t).f1, .int .i64 (rd_T79 l t).f2.f0, .int .i64 (rd_T79 l t).f2.f1, .int .i64 (rd_T79 l t).f2.f2, .int .i64 (rd_T79 l t).f3.f0, .int .i64 (rd_T79 l t).f3.f1, .int .i64 (rd_T79 l t).f3.f2, .int .i64 (rd_T79 l t).f4.f0, .int .i64 (rd_T79 l t).f4.f1, .int .i64 (rd_T79 l t).f4.f2, .int .i64 (rd_T79 l t).f5, .bool true] rfl rfl rfl (by kernel_rfl) rfl (by intro q hq;simp only [List.mem_cons,List.not_mem_nil,or_false] at hq;rcases hq with rfl|rfl|rfl|rfl|rfl|rfl|rfl|rfl|rfl|rfl|rfl|rfl|rfl|rfl<;>rfl) ?_;intro w7 hbk hg;replace BK5:=am_ (blk_put_other BK5.out hg (fun e=>NE.out e.symm));replace HB:=am_ (below_put HB.out (below_size HB.out) hg GE4.out);replace BK4:=am_ (hbk);clear hbk hg))
  refine bodyPost_ret (results_cell_row rfl _ _ gb4 180 #[.slice (some ad) l.length c, .string (rd_T79 l t).f0, .string (rd_T79 l t).f1, .int .i64 (rd_T79 l t).f2.f0, .int .i64 (rd_T79 l t).f2.f1, .int .i64 (rd_T79 l t).f2.f2, .int .i64 (rd_T79 l t).f3.f0, .int .i64 (rd_T79 l t).f3.f1, .int .i64 (rd_T79 l t).f3.f2, .int .i64 (rd_T79 l t).f4.f0, .int .i64 (rd_T79 l t).f4.f1, .int .i64 (rd_T79 l t).f4.f2, .int .i64 (rd_T79 l t).f5, .bool true] (0,0) _ rfl BK4.out Try.underlying180 rfl (by kernel_rfl)) rfl ?_;exact ⟨rfl,HB.out⟩
attribute [local go_sem high] eqA37
def effect_Holds.f (l0:List (S79)) (k:Int) (n p:ByteArray) (v0 v1 v2:Int):Option Bool:=(effect_find.f l0 n).bind fun r=>some (if k=1 then (r.2.2.2.2.2.2.2.2.2.2.2.2 && ((r.2.1.toList==p.toList) && (r.2.2.1==v0 && (r.2.2.2.1==v1 && (r.2.2.2.2.1==v2))))) else if k=2 then (r.2.2.2.2.2.2.2.2.2.2.2.2 && (r.2.2.1==v0 && (r.2.2.2.1==v1 && (r.2.2.2.2.1==v2)))) else if k=3 then (r.2.2.2.2.2.2.2.2.2.2.2.2 && (r.2.1.toList==p.toList)) else if k=4 then !r.2.2.2.2.2.2.2.2.2.2.2.2 else false)
set_option maxHeartbeats 8000000 in
set_option maxRecDepth 100000 in
theorem effect_Holds.calls (A:Option Addr) (c:Nat) (l:List (S79)) (k:Int) (n p:ByteArray) (v0 v1 v2:Int) (r:Bool) (w:World) (hr:Kd.C k79 w A l.length l) (hc:l.length≤c) (h:effect_Holds.f l k n p v0 v1 v2=some r):
    Calls Try.prog 104 #[.slice A l.length c, .agg #[.int .i64 k, .string n, .string p, .int .i64 v0, .int .i64 v1, .int .i64 v2]] w fun e w'=>e= .returned (.bool r)∧Below w.heap.size w w':=by
  have hu180:=Try.underlying180;have hu178:=Try.underlying178;have hu79:=Try.underlying79;have hu76:=Try.underlying76;have hu37:=Try.underlying37;obtain ⟨⟨r2,r3,r4,r5,r6,r7,r8,r9,r10,r11,r12,r13,r14⟩,hf,h⟩:=Option.bind_eq_some_iff.1 h;have HF:=Aside0.mk hf;have HH:=Aside0.mk h;have HR:=Aside0.mk hr;have HC:=Aside0.mk hc;have HB:=am_ (Below.refl w.heap.size w);clear hr hc hf h;go_enter Try.func104,Try.ntmps104;go_wp2_with (first|((with_reducible refine gate_dst (N:=3) rfl ?_);refine bx_ (N:=3) (cs:=#[.int .i64 k, .string n, .string p, .int .i64 v0, .int .i64 v1, .int .i64 v2]) (t:=76) ?_;intro gb3 hg w3 hbox hb;have BK3:=am_ (hbox);have GE3:=am_ ((by rw [hg];exact below_size HB.out:w.heap.size≤gb3));replace HB:=am_ (below_step HB.out hb);have EQ3:=am_ (hg);clear hb hbox hg;obtain ⟨cgb3_0,cgb3_1,cgb3_2,cgb3_3,cgb3_4,cgb3_5⟩:=xz6_ BK3))
  refine (effFind_calls A c l n r2 r3 r4 r5 r6 r7 r8 r9 r10 r11 r12 r13 r14 _ (Kd.C_below HR.out HB.out) HC.out HF.out).mono ?_;rintro e w4 ⟨rfl,hb⟩;have n0_:=am_ (blk_below BK3.out hb);have nB_:=am_ (below_step HB.out hb);clear BK3 HB hb cgb3_0 cgb3_1 cgb3_2 cgb3_3 cgb3_4 cgb3_5;have BK3:=n0_;have HB:=nB_;clear nB_ n0_;have h:=HH.out;clear HH;have HQ:=am_ (Option.some.inj h);clear h;by_cases k1:k=1
  · subst k1
    rcases Bool.eq_false_or_eq_true r14 with q14|q14
    rotate_left
    · skip
      subst q14
      go_wp2_with (first|((with_reducible refine gate_dst (N:=5) rfl ?_);refine bx_ (N:=5) (cs:=#[.slice none 0 0, .string ⟨#[]⟩, .string ⟨#[]⟩, .int .i64 0, .int .i64 0, .int .i64 0, .int .i64 0, .int .i64 0, .int .i64 0, .int .i64 0, .int .i64 0, .int .i64 0, .int .i64 0, .bool false]) (t:=180) ?_;intro gb5 hg w5 hbox hb;have NE:=am_ (show gb3≠gb5 from by have:=blk_lt BK3.out;rw [hg];exact Nat.ne_of_lt this);replace BK3:=am_ (blk_below BK3.out hb);have BK5:=am_ (hbox);have GE5:=am_ ((by rw [hg];exact below_size HB.out:w.heap.size≤gb5));replace HB:=am_ (below_step HB.out hb);have EQ5:=am_ (hg);clear hb hbox hg)|((with_reducible refine gate_store (t:=180) (p:=5) (v:= .tmp 9) rfl ?_);refine store_all BK5.out 180 (.tmp 5) (.tmp 9) rfl rfl rfl (.agg #[.slice A l.length c, .string r2, .string r3, .int .i64 r4, .int .i64 r5, .int .i64 r6, .int .i64 r7, .int .i64 r8, .int .i64 r9, .int .i64 r10, .int .i64 r11, .int .i64 r12, .int .i64 r13, .bool false]) [.slice A l.length c, .string r2, .string r3, .int .i64 r4, .int .i64 r5, .int .i64 r6, .int .i64 r7, .int .i64 r8, .int .i64 r9, .int .i64 r10, .int .i64 r11, .int .i64 r12, .int .i64 r13, .bool false] rfl rfl rfl (by kernel_rfl) rfl (by intro q hq;simp only [List.mem_cons,List.not_mem_nil,or_false] at hq;rcases hq with rfl|rfl|rfl|rfl|rfl|rfl|rfl|rfl|rfl|rfl|rfl|rfl|rfl|rfl<;>rfl) ?_;intro w6 hbk hg;replace BK3:=am_ (blk_put_other BK3.out hg (NE.out));replace HB:=am_ (below_put HB.out (below_size HB.out) hg GE5.out);replace BK5:=am_ (hbk);clear hbk hg;obtain ⟨_,_,_,_,_,_,_,_,_,_,_,_,_,_⟩:=xz14_ BK5;obtain ⟨cgb3_0,cgb3_1,cgb3_2,cgb3_3,cgb3_4,cgb3_5⟩:=xz6_ BK3))
      go_ret
      exact ⟨by rw [←HQ.out];simp [*],HB.out⟩
    by_cases c1:r3.toList=p.toList
    · have c1b : (r3.toList == p.toList) = true := beq_iff_eq.mpr c1
      subst q14
      go_wp2_with (first|((with_reducible refine gate_dst (N:=5) rfl ?_);refine bx_ (N:=5) (cs:=#[.slice none 0 0, .string ⟨#[]⟩, .string ⟨#[]⟩, .int .i64 0, .int .i64 0, .int .i64 0, .int .i64 0, .int .i64 0, .int .i64 0, .int .i64 0, .int .i64 0, .int .i64 0, .int .i64 0, .bool false]) (t:=180) ?_;intro gb5 hg w5 hbox hb;have NE:=am_ (show gb3≠gb5 from by have:=blk_lt BK3.out;rw [hg];exact Nat.ne_of_lt this);replace BK3:=am_ (blk_below BK3.out hb);have BK5:=am_ (hbox);have GE5:=am_ ((by rw [hg];exact below_size HB.out:w.heap.size≤gb5));replace HB:=am_ (below_step HB.out hb);have EQ5:=am_ (hg);clear hb hbox hg)|((with_reducible refine gate_store (t:=180) (p:=5) (v:= .tmp 9) rfl ?_);refine store_all BK5.out 180 (.tmp 5) (.tmp 9) rfl rfl rfl (.agg #[.slice A l.length c, .string r2, .string r3, .int .i64 r4, .int .i64 r5, .int .i64 r6, .int .i64 r7, .int .i64 r8, .int .i64 r9, .int .i64 r10, .int .i64 r11, .int .i64 r12, .int .i64 r13, .bool true]) [.slice A l.length c, .string r2, .string r3, .int .i64 r4, .int .i64 r5, .int .i64 r6, .int .i64 r7, .int .i64 r8, .int .i64 r9, .int .i64 r10, .int .i64 r11, .int .i64 r12, .int .i64 r13, .bool true] rfl rfl rfl (by kernel_rfl) rfl (by intro q hq;simp only [List.mem_cons,List.not_mem_nil,or_false] at hq;rcases hq with rfl|rfl|rfl|rfl|rfl|rfl|rfl|rfl|rfl|rfl|rfl|rfl|rfl|rfl<;>rfl) ?_;intro w6 hbk hg;replace BK3:=am_ (blk_put_other BK3.out hg (NE.out));replace HB:=am_ (below_put HB.out (below_size HB.out) hg GE5.out);replace BK5:=am_ (hbk);clear hbk hg;obtain ⟨_,_,_,_,_,_,_,_,_,_,_,_,_,_⟩:=xz14_ BK5;obtain ⟨cgb3_0,cgb3_1,cgb3_2,cgb3_3,cgb3_4,cgb3_5⟩:=xz6_ BK3))
      go_ret
      exact ⟨by rw [←HQ.out];simp [*],HB.out⟩
    have c1b:(r3.toList==p.toList)=false:=beq_eq_false_iff_ne.mpr c1
    subst q14
    go_wp2_with (first|((with_reducible refine gate_dst (N:=5) rfl ?_);refine bx_ (N:=5) (cs:=#[.slice none 0 0, .string ⟨#[]⟩, .string ⟨#[]⟩, .int .i64 0, .int .i64 0, .int .i64 0, .int .i64 0, .int .i64 0, .int .i64 0, .int .i64 0, .int .i64 0, .int .i64 0, .int .i64 0, .bool false]) (t:=180) ?_;intro gb5 hg w5 hbox hb;have NE:=am_ (show gb3≠gb5 from by have:=blk_lt BK3.out;rw [hg];exact Nat.ne_of_lt this);replace BK3:=am_ (blk_below BK3.out hb);have BK5:=am_ (hbox);have GE5:=am_ ((by rw [hg];exact below_size HB.out:w.heap.size≤gb5));replace HB:=am_ (below_step HB.out hb);have EQ5:=am_ (hg);clear hb hbox hg)|((with_reducible refine gate_store (t:=180) (p:=5) (v:= .tmp 9) rfl ?_);refine store_all BK5.out 180 (.tmp 5) (.tmp 9) rfl rfl rfl (.agg #[.slice A l.length c, .string r2, .string r3, .int .i64 r4, .int .i64 r5, .int .i64 r6, .int .i64 r7, .int .i64 r8, .int .i64 r9, .int .i64 r10, .int .i64 r11, .int .i64 r12, .int .i64 r13, .bool true]) [.slice A l.length c, .string r2, .string r3, .int .i64 r4, .int .i64 r5, .int .i64 r6, .int .i64 r7, .int .i64 r8, .int .i64 r9, .int .i64 r10, .int .i64 r11, .int .i64 r12, .int .i64 r13, .bool true] rfl rfl rfl (by kernel_rfl) rfl (by intro q hq;simp only [List.mem_cons,List.not_mem_nil,or_false] at hq;rcases hq with rfl|rfl|rfl|rfl|rfl|rfl|rfl|rfl|rfl|rfl|rfl|rfl|rfl|rfl<;>rfl) ?_;intro w6 hbk hg;replace BK3:=am_ (blk_put_other BK3.out hg (NE.out));replace HB:=am_ (below_put HB.out (below_size HB.out) hg GE5.out);replace BK5:=am_ (hbk);clear hbk hg;obtain ⟨_,_,_,_,_,_,_,_,_,_,_,_,_,_⟩:=xz14_ BK5;obtain ⟨cgb3_0,cgb3_1,cgb3_2,cgb3_3,cgb3_4,cgb3_5⟩:=xz6_ BK3))
    go_ret
    exact ⟨by rw [←HQ.out];simp [*],HB.out⟩
  skip
  have k1b:(k==1)=false:=beq_eq_false_iff_ne.mpr k1;by_cases k2:k=2
  · subst k2
    clear k1 k1b
    rcases Bool.eq_false_or_eq_true r14 with q14|q14
    · skip
      subst q14
      go_wp2_with (first|((with_reducible refine gate_dst (N:=5) rfl ?_);refine bx_ (N:=5) (cs:=#[.slice none 0 0, .string ⟨#[]⟩, .string ⟨#[]⟩, .int .i64 0, .int .i64 0, .int .i64 0, .int .i64 0, .int .i64 0, .int .i64 0, .int .i64 0, .int .i64 0, .int .i64 0, .int .i64 0, .bool false]) (t:=180) ?_;intro gb5 hg w5 hbox hb;have NE:=am_ (show gb3≠gb5 from by have:=blk_lt BK3.out;rw [hg];exact Nat.ne_of_lt this);replace BK3:=am_ (blk_below BK3.out hb);have BK5:=am_ (hbox);have GE5:=am_ ((by rw [hg];exact below_size HB.out:w.heap.size≤gb5));replace HB:=am_ (below_step HB.out hb);have EQ5:=am_ (hg);clear hb hbox hg)|((with_reducible refine gate_store (t:=180) (p:=5) (v:= .tmp 9) rfl ?_);refine store_all BK5.out 180 (.tmp 5) (.tmp 9) rfl rfl rfl (.agg #[.slice A l.length c, .string r2, .string r3, .int .i64 r4, .int .i64 r5, .int .i64 r6, .int .i64 r7, .int .i64 r8, .int .i64 r9, .int .i64 r10, .int .i64 r11, .int .i64 r12, .int .i64 r13, .bool true]) [.slice A l.length c, .string r2, .string r3, .int .i64 r4, .int .i64 r5, .int .i64 r6, .int .i64 r7, .int .i64 r8, .int .i64 r9, .int .i64 r10, .int .i64 r11, .int .i64 r12, .int .i64 r13, .bool true] rfl rfl rfl (by kernel_rfl) rfl (by intro q hq;simp only [List.mem_cons,List.not_mem_nil,or_false] at hq;rcases hq with rfl|rfl|rfl|rfl|rfl|rfl|rfl|rfl|rfl|rfl|rfl|rfl|rfl|rfl<;>rfl) ?_;intro w6 hbk hg;replace BK3:=am_ (blk_put_other BK3.out hg (NE.out));replace HB:=am_ (below_put HB.out (below_size HB.out) hg GE5.out);replace BK5:=am_ (hbk);clear hbk hg;obtain ⟨_,_,_,_,_,_,_,_,_,_,_,_,_,_⟩:=xz14_ BK5;obtain ⟨cgb3_0,cgb3_1,cgb3_2,cgb3_3,cgb3_4,cgb3_5⟩:=xz6_ BK3))
      go_ret
      exact ⟨by rw [←HQ.out];simp [*],HB.out⟩
    skip
    subst q14
    go_wp2_with (first|((with_reducible refine gate_dst (N:=5) rfl ?_);refine bx_ (N:=5) (cs:=#[.slice none 0 0, .string ⟨#[]⟩, .string ⟨#[]⟩, .int .i64 0, .int .i64 0, .int .i64 0, .int .i64 0, .int .i64 0, .int .i64 0, .int .i64 0, .int .i64 0, .int .i64 0, .int .i64 0, .bool false]) (t:=180) ?_;intro gb5 hg w5 hbox hb;have NE:=am_ (show gb3≠gb5 from by have:=blk_lt BK3.out;rw [hg];exact Nat.ne_of_lt this);replace BK3:=am_ (blk_below BK3.out hb);have BK5:=am_ (hbox);have GE5:=am_ ((by rw [hg];exact below_size HB.out:w.heap.size≤gb5));replace HB:=am_ (below_step HB.out hb);have EQ5:=am_ (hg);clear hb hbox hg)|((with_reducible refine gate_store (t:=180) (p:=5) (v:= .tmp 9) rfl ?_);refine store_all BK5.out 180 (.tmp 5) (.tmp 9) rfl rfl rfl (.agg #[.slice A l.length c, .string r2, .string r3, .int .i64 r4, .int .i64 r5, .int .i64 r6, .int .i64 r7, .int .i64 r8, .int .i64 r9, .int .i64 r10, .int .i64 r11, .int .i64 r12, .int .i64 r13, .bool false]) [.slice A l.length c, .string r2, .string r3, .int .i64 r4, .int .i64 r5, .int .i64 r6, .int .i64 r7, .int .i64 r8, .int .i64 r9, .int .i64 r10, .int .i64 r11, .int .i64 r12, .int .i64 r13, .bool false] rfl rfl rfl (by kernel_rfl) rfl (by intro q hq;simp only [List.mem_cons,List.not_mem_nil,or_false] at hq;rcases hq with rfl|rfl|rfl|rfl|rfl|rfl|rfl|rfl|rfl|rfl|rfl|rfl|rfl|rfl<;>rfl) ?_;intro w6 hbk hg;replace BK3:=am_ (blk_put_other BK3.out hg (NE.out));replace HB:=am_ (below_put HB.out (below_size HB.out) hg GE5.out);replace BK5:=am_ (hbk);clear hbk hg;obtain ⟨_,_,_,_,_,_,_,_,_,_,_,_,_,_⟩:=xz14_ BK5;obtain ⟨cgb3_0,cgb3_1,cgb3_2,cgb3_3,cgb3_4,cgb3_5⟩:=xz6_ BK3))
    go_ret
    exact ⟨by rw [←HQ.out];simp [*],HB.out⟩
  skip
  have k2b:(k==2)=false:=beq_eq_false_iff_ne.mpr k2;by_cases k3:k=3
  · subst k3
    clear k1 k2 k1b k2b
    rcases Bool.eq_false_or_eq_true r14 with q14|q14
    · skip
      subst q14
      go_wp2_with (first|((with_reducible refine gate_dst (N:=5) rfl ?_);refine bx_ (N:=5) (cs:=#[.slice none 0 0, .string ⟨#[]⟩, .string ⟨#[]⟩, .int .i64 0, .int .i64 0, .int .i64 0, .int .i64 0, .int .i64 0, .int .i64 0, .int .i64 0, .int .i64 0, .int .i64 0, .int .i64 0, .bool false]) (t:=180) ?_;intro gb5 hg w5 hbox hb;have NE:=am_ (show gb3≠gb5 from by have:=blk_lt BK3.out;rw [hg];exact Nat.ne_of_lt this);replace BK3:=am_ (blk_below BK3.out hb);have BK5:=am_ (hbox);have GE5:=am_ ((by rw [hg];exact below_size HB.out:w.heap.size≤gb5));replace HB:=am_ (below_step HB.out hb);have EQ5:=am_ (hg);clear hb hbox hg)|((with_reducible refine gate_store (t:=180) (p:=5) (v:= .tmp 9) rfl ?_);refine store_all BK5.out 180 (.tmp 5) (.tmp 9) rfl rfl rfl (.agg #[.slice A l.length c, .string r2, .string r3, .int .i64 r4, .int .i64 r5, .int .i64 r6, .int .i64 r7, .int .i64 r8, .int .i64 r9, .int .i64 r10, .int .i64 r11, .int .i64 r12, .int .i64 r13, .bool true]) [.slice A l.length c, .string r2, .string r3, .int .i64 r4, .int .i64 r5, .int .i64 r6, .int .i64 r7, .int .i64 r8, .int .i64 r9, .int .i64 r10, .int .i64 r11, .int .i64 r12, .int .i64 r13, .bool true] rfl rfl rfl (by kernel_rfl) rfl (by intro q hq;simp only [List.mem_cons,List.not_mem_nil,or_false] at hq;rcases hq with rfl|rfl|rfl|rfl|rfl|rfl|rfl|rfl|rfl|rfl|rfl|rfl|rfl|rfl<;>rfl) ?_;intro w6 hbk hg;replace BK3:=am_ (blk_put_other BK3.out hg (NE.out));replace HB:=am_ (below_put HB.out (below_size HB.out) hg GE5.out);replace BK5:=am_ (hbk);clear hbk hg;obtain ⟨_,_,_,_,_,_,_,_,_,_,_,_,_,_⟩:=xz14_ BK5;obtain ⟨cgb3_0,cgb3_1,cgb3_2,cgb3_3,cgb3_4,cgb3_5⟩:=xz6_ BK3))
      go_ret
      exact ⟨by rw [←HQ.out];simp [*],HB.out⟩
    skip
    subst q14
    go_wp2_with (first|((with_reducible refine gate_dst (N:=5) rfl ?_);refine bx_ (N:=5) (cs:=#[.slice none 0 0, .string ⟨#[]⟩, .string ⟨#[]⟩, .int .i64 0, .int .i64 0, .int .i64 0, .int .i64 0, .int .i64 0, .int .i64 0, .int .i64 0, .int .i64 0, .int .i64 0, .int .i64 0, .bool false]) (t:=180) ?_;intro gb5 hg w5 hbox hb;have NE:=am_ (show gb3≠gb5 from by have:=blk_lt BK3.out;rw [hg];exact Nat.ne_of_lt this);replace BK3:=am_ (blk_below BK3.out hb);have BK5:=am_ (hbox);have GE5:=am_ ((by rw [hg];exact below_size HB.out:w.heap.size≤gb5));replace HB:=am_ (below_step HB.out hb);have EQ5:=am_ (hg);clear hb hbox hg)|((with_reducible refine gate_store (t:=180) (p:=5) (v:= .tmp 9) rfl ?_);refine store_all BK5.out 180 (.tmp 5) (.tmp 9) rfl rfl rfl (.agg #[.slice A l.length c, .string r2, .string r3, .int .i64 r4, .int .i64 r5, .int .i64 r6, .int .i64 r7, .int .i64 r8, .int .i64 r9, .int .i64 r10, .int .i64 r11, .int .i64 r12, .int .i64 r13, .bool false]) [.slice A l.length c, .string r2, .string r3, .int .i64 r4, .int .i64 r5, .int .i64 r6, .int .i64 r7, .int .i64 r8, .int .i64 r9, .int .i64 r10, .int .i64 r11, .int .i64 r12, .int .i64 r13, .bool false] rfl rfl rfl (by kernel_rfl) rfl (by intro q hq;simp only [List.mem_cons,List.not_mem_nil,or_false] at hq;rcases hq with rfl|rfl|rfl|rfl|rfl|rfl|rfl|rfl|rfl|rfl|rfl|rfl|rfl|rfl<;>rfl) ?_;intro w6 hbk hg;replace BK3:=am_ (blk_put_other BK3.out hg (NE.out));replace HB:=am_ (below_put HB.out (below_size HB.out) hg GE5.out);replace BK5:=am_ (hbk);clear hbk hg;obtain ⟨_,_,_,_,_,_,_,_,_,_,_,_,_,_⟩:=xz14_ BK5;obtain ⟨cgb3_0,cgb3_1,cgb3_2,cgb3_3,cgb3_4,cgb3_5⟩:=xz6_ BK3))
    go_ret
    exact ⟨by rw [←HQ.out];simp [*],HB.out⟩
  skip
  have k3b:(k==3)=false:=beq_eq_false_iff_ne.mpr k3;by_cases k4:k=4
  · subst k4
    clear k1 k2 k3 k1b k2b k3b
    go_wp2_with (first|((with_reducible refine gate_dst (N:=5) rfl ?_);refine bx_ (N:=5) (cs:=#[.slice none 0 0, .string ⟨#[]⟩, .string ⟨#[]⟩, .int .i64 0, .int .i64 0, .int .i64 0, .int .i64 0, .int .i64 0, .int .i64 0, .int .i64 0, .int .i64 0, .int .i64 0, .int .i64 0, .bool false]) (t:=180) ?_;intro gb5 hg w5 hbox hb;have NE:=am_ (show gb3≠gb5 from by have:=blk_lt BK3.out;rw [hg];exact Nat.ne_of_lt this);replace BK3:=am_ (blk_below BK3.out hb);have BK5:=am_ (hbox);have GE5:=am_ ((by rw [hg];exact below_size HB.out:w.heap.size≤gb5));replace HB:=am_ (below_step HB.out hb);have EQ5:=am_ (hg);clear hb hbox hg)|((with_reducible refine gate_store (t:=180) (p:=5) (v:= .tmp 9) rfl ?_);refine store_all BK5.out 180 (.tmp 5) (.tmp 9) rfl rfl rfl (.agg #[.slice A l.length c, .string r2, .string r3, .int .i64 r4, .int .i64 r5, .int .i64 r6, .int .i64 r7, .int .i64 r8, .int .i64 r9, .int .i64 r10, .int .i64 r11, .int .i64 r12, .int .i64 r13, .bool r14]) [.slice A l.length c, .string r2, .string r3, .int .i64 r4, .int .i64 r5, .int .i64 r6, .int .i64 r7, .int .i64 r8, .int .i64 r9, .int .i64 r10, .int .i64 r11, .int .i64 r12, .int .i64 r13, .bool r14] rfl rfl rfl (by kernel_rfl) rfl (by intro q hq;simp only [List.mem_cons,List.not_mem_nil,or_false] at hq;rcases hq with rfl|rfl|rfl|rfl|rfl|rfl|rfl|rfl|rfl|rfl|rfl|rfl|rfl|rfl<;>rfl) ?_;intro w6 hbk hg;replace BK3:=am_ (blk_put_other BK3.out hg (NE.out));replace HB:=am_ (below_put HB.out (below_size HB.out) hg GE5.out);replace BK5:=am_ (hbk);clear hbk hg;obtain ⟨_,_,_,_,_,_,_,_,_,_,_,_,_,_⟩:=xz14_ BK5;obtain ⟨cgb3_0,cgb3_1,cgb3_2,cgb3_3,cgb3_4,cgb3_5⟩:=xz6_ BK3))
    go_ret
    exact ⟨by rw [←HQ.out];rfl,HB.out⟩
  skip
  have k4b:(k==4)=false:=beq_eq_false_iff_ne.mpr k4
  go_wp2_with (first|((with_reducible refine gate_dst (N:=5) rfl ?_);refine bx_ (N:=5) (cs:=#[.slice none 0 0, .string ⟨#[]⟩, .string ⟨#[]⟩, .int .i64 0, .int .i64 0, .int .i64 0, .int .i64 0, .int .i64 0, .int .i64 0, .int .i64 0, .int .i64 0, .int .i64 0, .int .i64 0, .bool false]) (t:=180) ?_;intro gb5 hg w5 hbox hb;have NE:=am_ (show gb3≠gb5 from by have:=blk_lt BK3.out;rw [hg];exact Nat.ne_of_lt this);replace BK3:=am_ (blk_below BK3.out hb);have BK5:=am_ (hbox);have GE5:=am_ ((by rw [hg];exact below_size HB.out:w.heap.size≤gb5));replace HB:=am_ (below_step HB.out hb);have EQ5:=am_ (hg);clear hb hbox hg)|((with_reducible refine gate_store (t:=180) (p:=5) (v:= .tmp 9) rfl ?_);refine store_all BK5.out 180 (.tmp 5) (.tmp 9) rfl rfl rfl (.agg #[.slice A l.length c, .string r2, .string r3, .int .i64 r4, .int .i64 r5, .int .i64 r6, .int .i64 r7, .int .i64 r8, .int .i64 r9, .int .i64 r10, .int .i64 r11, .int .i64 r12, .int .i64 r13, .bool r14]) [.slice A l.length c, .string r2, .string r3, .int .i64 r4, .int .i64 r5, .int .i64 r6, .int .i64 r7, .int .i64 r8, .int .i64 r9, .int .i64 r10, .int .i64 r11, .int .i64 r12, .int .i64 r13, .bool r14] rfl rfl rfl (by kernel_rfl) rfl (by intro q hq;simp only [List.mem_cons,List.not_mem_nil,or_false] at hq;rcases hq with rfl|rfl|rfl|rfl|rfl|rfl|rfl|rfl|rfl|rfl|rfl|rfl|rfl|rfl<;>rfl) ?_;intro w6 hbk hg;replace BK3:=am_ (blk_put_other BK3.out hg (NE.out));replace HB:=am_ (below_put HB.out (below_size HB.out) hg GE5.out);replace BK5:=am_ (hbk);clear hbk hg;obtain ⟨_,_,_,_,_,_,_,_,_,_,_,_,_,_⟩:=xz14_ BK5;obtain ⟨cgb3_0,cgb3_1,cgb3_2,cgb3_3,cgb3_4,cgb3_5⟩:=xz6_ BK3))
  go_ret
  exact ⟨by rw [←HQ.out];simp [*],HB.out⟩


def slices_Clone_Mark.f (l0:List (S84)):Option (List (S84)):=if l0.length<2199023255552 then some l0 else none
set_option maxHeartbeats 8000000 in
set_option maxRecDepth 100000 in
theorem slices_Clone_Mark.calls (A0:Option Addr) (c0:Nat) (l0:List (S84)) (r:List (S84)) (w:World) (hr0:Kd.C k84 w A0 l0.length l0) (hc0:l0.length≤c0) (h:slices_Clone_Mark.f l0=some r):
    Calls Try.prog 168 #[.slice A0 l0.length c0] w fun e w'=> ∃v0_:Value,e= .returned (v0_)∧Kd.R k84 84 w' w.heap.size (fun _=>True) v0_ r∧Below w.heap.size w w':=by
  have hlim:l0.length<2199023255552∧l0=r:=by
    unfold slices_Clone_Mark.f at h
    split at h
    · exact ⟨by assumption,Option.some.inj h⟩
    cases h
  obtain ⟨hlim,rfl⟩:=hlim;have hnil:=fun (W:World) (n c:Nat)=>Lib.run_eql_slice_nil (P:=Try.prog) W 53 84 A0 n c 0 0 Try.underlying53
  cases A0 with
  | none =>
    have hl:l0=[]:=by
      cases l0 with
      |nil=>rfl
      |cons x l=>exact absurd (hr0.2.2 (by simp)) (by simp)
    subst hl;clear hr0;go_enter Try.func168,Try.ntmps168;go_wp2
    go_ret
    exact ⟨_,rfl,Kd.R_nil _ _ _ _ _,Below.refl _ _⟩
  | some ad =>
    have HR0:=Aside0.mk hr0;have HC0:=Aside0.mk hc0;have LM:=Aside0.mk hlim;clear hr0 hc0 hlim h;have HB:=am_ (Below.refl w.heap.size w);go_enter Try.func168,Try.ntmps168;go_wp2_with (first|((with_reducible refine gate_dst (N:=5) rfl ?_);refine Kd.R_lit k84 _ 84 ?hg (N:=5) ?hd (xs:=([]:List (S84))) (inner:=[]) (ok:=fun _=>True) (okp:=fun _=>True) ?hr ?hp (fun _ hk=>hk) trivial (Below.refl _ _) (Nat.le_refl _) (by simp) ?_;(case hd=>rfl);(case hg=>rfl);(case hr=>first|(go_simp;done)|(go_simp;rfl));(case hp=>exact (Reps.none _ _));intro v2 w3 ho4 hb hg_ hnew_;clear hg_ hnew_;have HO3:=am_ (Kd.R_lower ho4 (below_size HB.out));replace HB:=am_ (below_step HB.out hb);clear hb ho4)|((with_reducible refine gate_builtin (b:= .append) (xs:=#[.tmp 5, .tmp 6]) rfl ?_);at_builtin;refine Kd.R_append_rows k84 (w0:=w) w.heap.size rfl (.tmp 5) (.tmp 6) 53 84 (.agg #[(.string ⟨#[]⟩),(.string ⟨#[]⟩),(.int .i64 0),(.int .i64 0),(.int .i64 0),(.int .i64 0)]) 64 rfl Try.underlying53 info84 rfl (by decide) (by omega) v2 [] l0 _ _ _ (fun _=>True) (fun _=>False) rfl rfl ?aO ?aR (fun _ _ h=>h) (fun _ h=>h.elim) ?aF ?aB ?aS ?aL ?_;(case aR=>exact (Kd.C_below HR0.out HB.out));(case aB=>exact HB.out);(case aF=>exact (fun _ _=>trivial));(case aO=>exact HO3.out);(case aS=>exact (below_size HB.out));(case aL=>have:=LM.out;simp;omega);intro v5 w5 ho hb hg hat;have n0_:=am_ (hb);have n1_:=am_ (ho);clear HB;clear HO3;have HB:=n0_;have HO6:=n1_;clear n0_ n1_;clear ho hb hg hat))
    go_ret
    exact ⟨_,rfl,HO6.out,HB.out⟩


end Go.Proofs.Ytahidkjncljkaaa.Print

namespace Go.Proofs.Ytahidkjncljkaaa.Print
open Go.RowKit Go.Proofs.YtahidkjncljkaaaW.PrintWords Go.Proofs.YtahidkjncljkaaaW.PrintLast Go.Proofs.YtahidkjncljkaaaW.PrintMore
theorem eff_own {α:Type} {d:Kd α} {e base:Nat} {ok:Nat→Prop} {w:World} {v:Value} {xs:List α} (h:d.R e w base ok v xs) (k:Nat) (hk:v.ownBlock=some k):base≤k∧k<w.heap.size:=⟨((Kd.R_bound h).1 k hk).2.1,((Kd.R_bound h).1 k hk).2.2.1⟩
theorem eff_old {α:Type} {d:Kd α} {e base:Nat} {ok:Nat→Prop} {w:World} {v:Value} {xs:List α} (h:d.R e w base ok v xs):d.R e w base (fun k=>k<w.heap.size) v xs:=Kd.R_mono (Kd.R_bound h) (fun k hk=>hk.2.2.1)
theorem eff_put_old {α:Type} {d:Kd α} {e base g:Nat} {w w1:World} {v:Value} {xs:List α} (h:d.R e w base (fun k=>k<g) v xs) (hg:w.grownBy w1 (some g)):d.R e w1 base (fun k=>k<g) v xs:=Kd.R_grown h hg (fun k hk e=>by cases e;exact absurd hk (Nat.lt_irrefl _))
theorem eff_ne_old {α:Type} {d:Kd α} {e base g:Nat} {w:World} {v:Value} {xs:List α} (h:d.R e w base (fun k=>k<g) v xs):some g≠v.ownBlock:=fun e=>absurd (h.1 g e.symm) (Nat.lt_irrefl g)
def Keep2 (W w:World) (o i:Nat) (row:Option Nat):Prop:=W.heap.size≤w.heap.size∧ ∀g,g<W.heap.size→g≠o→g≠i→some g≠row→w.heap[g]?=W.heap[g]?
set_option maxHeartbeats 4000000 in
set_option maxRecDepth 100000 in
theorem effPut_calls (W:World) (b0 bo bs bf bi base nl:Nat) (A:Option Addr) (c:Nat) (v:Value) (x:Bool) (out:List S84) (s0 s3 s4 s5:Int) (s1 s2:ByteArray) (f1 f2:ByteArray) (f3 f4 f5 f6 f7 f8 f9 f10 f11 f12:Int) (f13:Bool)
    (ho:W.heap[bo]?=some (.cells #[v] 53 (0,0))) (hs:W.heap[bs]?=some (.cells #[.int .i64 s0, .string s1, .string s2, .int .i64 s3, .int .i64 s4, .int .i64 s5] 76 (0,0))) (hf:W.heap[bf]?=some (.cells #[.slice A nl c, .string f1, .string f2, .int .i64 f3, .int .i64 f4, .int .i64 f5, .int .i64 f6, .int .i64 f7, .int .i64 f8, .int .i64 f9, .int .i64 f10, .int .i64 f11, .int .i64 f12, .bool f13] 180 (0,0))) (hi:W.heap[bi]?=some (.cells #[.bool x] 4 (0,0)))
    (h0:b0≤bo) (h1:bo<bi) (h2:bi<base) (h3:base≤W.heap.size) (hr:Kd.R k84 84 W base (fun _=>True) v out) (hl:out.length<1000000000):
    Calls Try.prog 167 #[.pointer (some ⟨bo,0,none⟩), .pointer (some ⟨bs,0,none⟩), .pointer (some ⟨bf,0,none⟩), .pointer (some ⟨bi,0,none⟩)] W fun e w'=>e= .returned (.tuple #[])∧ ∃v',w'.heap[bo]?=some (.cells #[v'] 53 (0,0))∧w'.heap[bi]?=some (.cells #[.bool true] 4 (0,0))∧
      Kd.R k84 84 w' base (fun _=>True) v' (out++ [⟨s1,f2,⟨f3,f4,f5⟩,f12⟩])∧Keep2 W w' bo bi v.ownBlock∧Below b0 W w':=by
  have hu180:=Try.underlying180;have hu178:=Try.underlying178;have hu79:=Try.underlying79;have hu84:=Try.underlying84;have hu76:=Try.underlying76;have co:=(blk_cell ho 0).trans rfl;have cs1:=(blk_cell hs 1).trans rfl;have cf2:=(blk_cell hf 2).trans rfl;have cf3:=(blk_cell hf 3).trans rfl;have cf4:=(blk_cell hf 4).trans rfl;have cf5:=(blk_cell hf 5).trans rfl;have cf12:=(blk_cell hf 12).trans rfl;have HOT:=am_ (blk_lt ho);have HIT:=am_ (blk_lt hi);have HO:=Aside0.mk hr;have BO:=Aside0.mk ho;have BI:=Aside0.mk hi;have HL:=Aside0.mk hl;have HOWN:=am_ (eff_own hr);have H0:=Aside0.mk h0;have H1:=Aside0.mk h1;have H2:=Aside0.mk h2;have H3:=Aside0.mk h3;have NBI:=am_ (show bi≠bo by omega);obtain ⟨Au,cu,eu⟩:=Kd.R_slice hr;subst eu;clear ho hs hf hi hr hl h0 h1 h2 h3;go_enter Try.func167,Try.ntmps167
  go_wp2_with (first|((with_reducible refine gate_builtin (b:= .append) (xs:=#[.tmp 4, .tmp 17]) rfl ?_);at_builtin;refine Kd.R_append k84 (w0:=W) base rfl (.tmp 4) (.tmp 17) 53 84 (.agg #[(.string ⟨#[]⟩),(.string ⟨#[]⟩),(.int .i64 0),(.int .i64 0),(.int .i64 0),(.int .i64 0)]) 64 rfl Try.underlying53 info84 rfl (by decide) (by omega) _ out ⟨s1,f2,⟨f3,f4,f5⟩,f12⟩ [.string s1, .string f2, .int .i64 f3, .int .i64 f4, .int .i64 f5, .int .i64 f12] (fun _=>True) (fun _=>False) rfl (by first|(go_simp;done)|(go_simp;rfl)) ?aP (fun _ hk=>hk.elim) ?aF ?aO ?aB ?aS ?aL ?_;(case aP=>exact k84_mkM _ _ _ (⟨s1,f2,⟨f3,f4,f5⟩,f12⟩:S84));(case aF=>exact fun _ _=>trivial);(case aO=>exact HO.out);(case aB=>exact Below.refl _ _);(case aS=>exact H3.out);(case aL=>have:=HL.out;omega);intro v5 w8 ho hb hg hat;have HO8:=Aside0.mk ho;have HG8:=Aside0.mk hg;have HAT:=Aside0.mk hat;have hne:some bo≠_:=Kd.R_ne HO.out BO.out (by decide);have hni:some bi≠_:=Kd.R_ne HO.out BI.out (by decide);have BO8:=am_ (blk_grown BO.out hg hne);have BI8:=am_ (blk_grown BI.out hg hni);have zo:=blk_frozen BO8.out 0;have zi:=blk_frozen BI8.out 0;have do_:=zz_ BO8 0;have di:=zz_ BI8 0;clear ho hb hg hat hne hni;obtain ⟨Ao,co_,eo⟩:=Kd.R_slice HO8.out;subst eo)|((with_reducible refine gate_store (t:=53) (p:=0) (v:= .tmp 18) rfl ?_);refine store_all BO8.out 53 (.tmp 0) (.tmp 18) rfl rfl rfl _ [_] rfl rfl rfl (by kernel_rfl) rfl (by intro q hq;simp only [List.mem_cons,List.not_mem_nil,or_false] at hq;rcases hq with rfl;rfl) ?_;intro w9 hbk hg9;have BO9:=Aside0.mk hbk;have HG9:=Aside0.mk hg9;have BI9:=am_ (blk_put_other BI8.out hg9 NBI.out);have HO9:=am_ (R_put HO8.out BO8.out (by decide) hg9);clear hbk hg9)|((with_reducible refine gate_store (t:=4) (p:=3) (v:= .const (.bool true)) rfl ?_);refine store_all BI9.out 4 (.tmp 3) (.const (.bool true)) rfl rfl rfl (.bool true) [.bool true] rfl rfl rfl (by kernel_rfl) rfl (by intro q hq;simp only [List.mem_cons,List.not_mem_nil,or_false] at hq;rcases hq with rfl;rfl) ?_;intro w10 hbk hg10;have BI10:=Aside0.mk hbk;have HG10:=Aside0.mk hg10;have BO10:=am_ (blk_put_other BO9.out hg10 (fun e=>NBI.out e.symm));have HO10:=am_ (R_put HO9.out BI9.out (by decide) hg10);clear hbk hg10))
  (first|go_end0|((try simp only [Exit.inBlock,Exit.then]);refine bodyPost_ret (results_none rfl _ _ _) rfl ?_)|refine bodyPost_end (results_none rfl _ _ _) rfl ?_);refine ⟨rfl,_,BO10.out,BI10.out,(by first|exact HO10.out|(have q:=HO10.out;simp only [List.length_append,List.length_cons,List.length_nil,Nat.zero_add] at q ⊢;exact q)),⟨?_,fun g hg h4 h5 h6=> ?_⟩, ?_⟩
  · exact Nat.le_trans HG8.out.size (Nat.le_trans HG9.out.size HG10.out.size)
  · rw [HG10.out.block g (Nat.lt_of_lt_of_le hg (Nat.le_trans HG8.out.size HG9.out.size)) (fun e => h5 (Option.some.inj e)), HG9.out.block g (Nat.lt_of_lt_of_le hg HG8.out.size) (fun e => h4 (Option.some.inj e))]
    exact HG8.out.block g hg h6
  have hb0:b0≤bi:=by have:=H0.out;have:=H1.out;omega
  have hbs:b0≤W.heap.size:=by have:=H0.out;have:=HOT.out;omega
  have q8:Below b0 W w8:=pw_below_grown (Below.refl b0 W) _ hbs HG8.out (fun k e=>by have:=(HOWN.out k e).1;have:=H2.out;omega);exact below_put (below_put q8 (Nat.le_trans hbs HG8.out.size) HG9.out H0.out) (Nat.le_trans hbs (Nat.le_trans HG8.out.size HG9.out.size)) HG10.out hb0
end Go.Proofs.Ytahidkjncljkaaa.Print

namespace Go.Proofs.Ytahidkjncljkaaa.Print
open Go.RowKit Go.Proofs.YtahidkjncljkaaaW.PrintWords Go.Proofs.YtahidkjncljkaaaW.PrintLast Go.Proofs.YtahidkjncljkaaaW.PrintMore
attribute [local go_sem] max2_int min2_int max_two min_two max_three min_three max_four min_four

def effL (mk:S84) (n:ByteArray):Bool→List S84→List S84
 |b,[]=>if b=true then [] else [mk]
 |b,m::ms=>(if b=false∧Op.bytesLess m.f0.toList n.toList=false then [mk] else [])++((if m.f0.toList=n.toList then [] else [m])++effL mk n (if b=false∧Op.bytesLess m.f0.toList n.toList=false then true else b) ms)
theorem effL_len (mk:S84) (n:ByteArray): ∀(ms:List S84) (b:Bool),(effL mk n b ms).length≤2*ms.length+1
  |[],b=>by unfold effL;split<;>simp
  | m :: ms, b => by
    unfold effL;have:=effL_len mk n ms (if b=false∧Op.bytesLess m.f0.toList n.toList=false then true else b)
    rw [List.length_append,List.length_append,List.length_cons];have h1:(if b=false∧Op.bytesLess m.f0.toList n.toList=false then [mk] else []).length≤1:=by split<;>simp
    have h2:(if m.f0.toList=n.toList then [] else [m]).length≤1:=by split<;>simp
    omega
def effect_Marks.f (l0:List (S84)) (l1:List (S79)) (s0:Int) (s1 s2:ByteArray) (s3 s4 s5:Int):Option (List (S84)):=if l0.length<400000000 then (effect_find.f l1 s1).bind fun q=>some (effL ⟨s1,q.2.1,⟨q.2.2.1,q.2.2.2.1,q.2.2.2.2.1⟩,q.2.2.2.2.2.2.2.2.2.2.2.1⟩ s1 (!q.2.2.2.2.2.2.2.2.2.2.2.2||s0==4) l0) else none
set_option maxHeartbeats 8000000 in
set_option maxRecDepth 100000 in
theorem effect_Marks.calls (A0:Option Addr) (c0:Nat) (l0:List (S84)) (A:Option Addr) (c:Nat) (l:List (S79)) (s0:Int) (s1 s2:ByteArray) (s3 s4 s5:Int) (r:List (S84)) (w:World) (hr0:Kd.C k84 w A0 l0.length l0) (hc0:l0.length≤c0) (hr1:Kd.C k79 w A l.length l) (hc1:l.length≤c) (h:effect_Marks.f l0 l s0 s1 s2 s3 s4 s5=some r):
    Calls Try.prog 142 #[.slice A0 l0.length c0, .slice A l.length c, .agg #[.int .i64 s0, .string s1, .string s2, .int .i64 s3, .int .i64 s4, .int .i64 s5]] w fun e w'=> ∃v0_:Value,e= .returned (v0_)∧Kd.R k84 84 w' w.heap.size (fun _=>True) v0_ r∧Below w.heap.size w w':=by
  have hu180:=Try.underlying180;have hu178:=Try.underlying178;have hu79:=Try.underlying79;have hu84:=Try.underlying84;have hu76:=Try.underlying76;have hu37:=Try.underlying37;unfold effect_Marks.f at h;by_cases hlim:l0.length<400000000
  case neg=>rw [if_neg hlim] at h;cases h
  rw [if_pos hlim] at h;obtain ⟨⟨r2,r3,r4,r5,r6,r7,r8,r9,r10,r11,r12,r13,r14⟩,hf,h⟩:=Option.bind_eq_some_iff.1 h;have hrr:=(Option.some.inj h).symm;dsimp only at hrr;obtain ⟨mk,hmk⟩: ∃x:S84,x=⟨s1,r3,⟨r4,r5,r6⟩,r13⟩:=⟨_,rfl⟩;rw [←hmk] at hrr;have HMK:=Aside0.mk hmk;have HRQ:=Aside0.mk hrr;have HF:=Aside0.mk hf;have HL:=Aside0.mk hlim;have HR0:=Aside0.mk hr0;have HR:=Aside0.mk hr1;have HC:=Aside0.mk hc1;have HB:=am_ (Below.refl w.heap.size w);clear hr0 hc0 hr1 hc1 hf h hrr hlim hmk;go_enter Try.func142,Try.ntmps142;go_wp2_with (first|((with_reducible refine gate_dst (N:=5) rfl ?_);refine bx_ (N:=5) (cs:=#[.int .i64 s0, .string s1, .string s2, .int .i64 s3, .int .i64 s4, .int .i64 s5]) (t:=76) ?_;intro gb5 hg w3 hbox hb;have BK5:=am_ (hbox);have GE5:=am_ ((by rw [hg];exact below_size HB.out:w.heap.size≤gb5));replace HB:=am_ (below_step HB.out hb);have EQ5:=am_ (hg);clear hb hbox hg;obtain ⟨cgb5_0,cgb5_1,cgb5_2,cgb5_3,cgb5_4,cgb5_5⟩:=xz6_ BK5))
  refine (effFind_calls A c l s1 r2 r3 r4 r5 r6 r7 r8 r9 r10 r11 r12 r13 r14 _ (Kd.C_below HR.out HB.out) HC.out HF.out).mono ?_;rintro e w4 ⟨rfl,hb⟩;have n0_:=am_ (blk_below BK5.out hb);have nB_:=am_ (below_step HB.out hb);clear BK5 HB hb cgb5_0 cgb5_1 cgb5_2 cgb5_3 cgb5_4 cgb5_5;have BK5:=n0_;have HB:=nB_;clear nB_ n0_
  rcases Bool.eq_false_or_eq_true r14 with q14|q14
  subst q14
  focus (go_wp2_with (first|((with_reducible refine gate_dst (N:=7) rfl ?_);refine bx_ (N:=7) (cs:=#[.slice none 0 0, .string ⟨#[]⟩, .string ⟨#[]⟩, .int .i64 0, .int .i64 0, .int .i64 0, .int .i64 0, .int .i64 0, .int .i64 0, .int .i64 0, .int .i64 0, .int .i64 0, .int .i64 0, .bool false]) (t:=180) ?_;intro gb7 hg w5 hbox hb;have NE5_7:=am_ (show gb5≠gb7 from by have:=blk_lt BK5.out;rw [hg];exact Nat.ne_of_lt this);have LT5_7:=am_ (show gb5<gb7 from by have:=blk_lt BK5.out;rw [hg];exact this);replace BK5:=am_ (blk_below BK5.out hb);have BK7:=am_ (hbox);have GE7:=am_ ((by rw [hg];exact below_size HB.out:w.heap.size≤gb7));replace HB:=am_ (below_step HB.out hb);have EQ7:=am_ (hg);clear hb hbox hg;obtain ⟨cgb7_0,cgb7_1,cgb7_2,cgb7_3,cgb7_4,cgb7_5,cgb7_6,cgb7_7,cgb7_8,cgb7_9,cgb7_10,cgb7_11,cgb7_12,cgb7_13⟩:=xz14_ BK7)|((with_reducible refine gate_store (t:=180) (p:=7) (v:= .tmp 16) rfl ?_);refine store_all BK7.out 180 (.tmp 7) (.tmp 16) rfl rfl rfl (.agg #[.slice A l.length c, .string r2, .string r3, .int .i64 r4, .int .i64 r5, .int .i64 r6, .int .i64 r7, .int .i64 r8, .int .i64 r9, .int .i64 r10, .int .i64 r11, .int .i64 r12, .int .i64 r13, .bool true]) [.slice A l.length c, .string r2, .string r3, .int .i64 r4, .int .i64 r5, .int .i64 r6, .int .i64 r7, .int .i64 r8, .int .i64 r9, .int .i64 r10, .int .i64 r11, .int .i64 r12, .int .i64 r13, .bool true] rfl rfl rfl (by kernel_rfl) rfl (by intro q hq;simp only [List.mem_cons,List.not_mem_nil,or_false] at hq;rcases hq with rfl|rfl|rfl|rfl|rfl|rfl|rfl|rfl|rfl|rfl|rfl|rfl|rfl|rfl<;>rfl) ?_;intro w6 hbk hg;clear cgb7_0 cgb7_1 cgb7_2 cgb7_3 cgb7_4 cgb7_5 cgb7_6 cgb7_7 cgb7_8 cgb7_9 cgb7_10 cgb7_11 cgb7_12 cgb7_13;replace BK5:=am_ (blk_put_other BK5.out hg (NE5_7.out));replace HB:=am_ (below_put HB.out (below_size HB.out) hg GE7.out);replace BK7:=am_ (hbk);clear hbk hg;obtain ⟨cgb7_0,cgb7_1,cgb7_2,cgb7_3,cgb7_4,cgb7_5,cgb7_6,cgb7_7,cgb7_8,cgb7_9,cgb7_10,cgb7_11,cgb7_12,cgb7_13⟩:=xz14_ BK7;obtain ⟨cgb5_0,cgb5_1,cgb5_2,cgb5_3,cgb5_4,cgb5_5⟩:=xz6_ BK5)|((with_reducible refine gate_dst (N:=8) rfl ?_);refine bx_ (N:=8) (cs:=#[.slice none 0 0]) (t:=53) ?_;intro gb8 hg w7 hbox hb;have NE5_8:=am_ (show gb5≠gb8 from by have:=blk_lt BK5.out;rw [hg];exact Nat.ne_of_lt this);have LT5_8:=am_ (show gb5<gb8 from by have:=blk_lt BK5.out;rw [hg];exact this);have NE7_8:=am_ (show gb7≠gb8 from by have:=blk_lt BK7.out;rw [hg];exact Nat.ne_of_lt this);have LT7_8:=am_ (show gb7<gb8 from by have:=blk_lt BK7.out;rw [hg];exact this);replace BK5:=am_ (blk_below BK5.out hb);replace BK7:=am_ (blk_below BK7.out hb);have BK8:=am_ (hbox);have GE8:=am_ ((by rw [hg];exact below_size HB.out:w.heap.size≤gb8));replace HB:=am_ (below_step HB.out hb);have EQ8:=am_ (hg);clear hb hbox hg;have cgb8_0:=zz_ BK8 0;clear cgb5_0 cgb5_1 cgb5_2 cgb5_3 cgb5_4 cgb5_5 cgb7_0 cgb7_1 cgb7_2 cgb7_3 cgb7_4 cgb7_5 cgb7_6 cgb7_7 cgb7_8 cgb7_9 cgb7_10 cgb7_11 cgb7_12 cgb7_13;have cgb7_13:=zz_ BK7 13;obtain ⟨cgb5_0,cgb5_1,cgb5_2,cgb5_3,cgb5_4,cgb5_5⟩:=xz6_ BK5)|((with_reducible refine gate_dst (N:=9) rfl ?_);refine bx_ (N:=9) (cs:=#[.bool false]) (t:=4) ?_;intro gb9 hg w8 hbox hb;have NE5_9:=am_ (show gb5≠gb9 from by have:=blk_lt BK5.out;rw [hg];exact Nat.ne_of_lt this);have LT5_9:=am_ (show gb5<gb9 from by have:=blk_lt BK5.out;rw [hg];exact this);have NE7_9:=am_ (show gb7≠gb9 from by have:=blk_lt BK7.out;rw [hg];exact Nat.ne_of_lt this);have LT7_9:=am_ (show gb7<gb9 from by have:=blk_lt BK7.out;rw [hg];exact this);have NE8_9:=am_ (show gb8≠gb9 from by have:=blk_lt BK8.out;rw [hg];exact Nat.ne_of_lt this);have LT8_9:=am_ (show gb8<gb9 from by have:=blk_lt BK8.out;rw [hg];exact this);replace BK5:=am_ (blk_below BK5.out hb);replace BK7:=am_ (blk_below BK7.out hb);replace BK8:=am_ (blk_below BK8.out hb);have BK9:=am_ (hbox);have GE9:=am_ ((by rw [hg];exact below_size HB.out:w.heap.size≤gb9));replace HB:=am_ (below_step HB.out hb);have EQ9:=am_ (hg);clear hb hbox hg;have cgb9_0:=zz_ BK9 0)|((with_reducible refine gate_store (t:=4) (p:=9) (v:= .tmp 24) rfl ?_);refine store_all BK9.out 4 (.tmp 9) (.tmp 24) rfl rfl rfl (.bool (s0==4)) [.bool (s0==4)] rfl rfl rfl (by kernel_rfl) rfl (by intro q hq;simp only [List.mem_cons,List.not_mem_nil,or_false] at hq;rcases hq with rfl<;>rfl) ?_;intro w9 hbk hg;clear cgb9_0;replace BK5:=am_ (blk_put_other BK5.out hg (NE5_9.out));replace BK7:=am_ (blk_put_other BK7.out hg (NE7_9.out));replace BK8:=am_ (blk_put_other BK8.out hg (NE8_9.out));replace HB:=am_ (below_put HB.out (below_size HB.out) hg GE9.out);replace BK9:=am_ (hbk);clear hbk hg)))
  have HRR:=am_ (show r=effL mk s1 (s0==4) l0 from HRQ.out);obtain ⟨in0,hin0⟩: ∃b,b=(s0==4):=⟨_,rfl⟩;rw [←hin0] at HRR BK9;obtain ⟨b14,hb14⟩: ∃b,b=true:=⟨_,rfl⟩;rw [←hb14] at BK7;clear HRQ hin0 hb14;rotate_left;subst q14
  focus (go_wp2_with (first|((with_reducible refine gate_dst (N:=7) rfl ?_);refine bx_ (N:=7) (cs:=#[.slice none 0 0, .string ⟨#[]⟩, .string ⟨#[]⟩, .int .i64 0, .int .i64 0, .int .i64 0, .int .i64 0, .int .i64 0, .int .i64 0, .int .i64 0, .int .i64 0, .int .i64 0, .int .i64 0, .bool false]) (t:=180) ?_;intro gb7 hg w5 hbox hb;have NE5_7:=am_ (show gb5≠gb7 from by have:=blk_lt BK5.out;rw [hg];exact Nat.ne_of_lt this);have LT5_7:=am_ (show gb5<gb7 from by have:=blk_lt BK5.out;rw [hg];exact this);replace BK5:=am_ (blk_below BK5.out hb);have BK7:=am_ (hbox);have GE7:=am_ ((by rw [hg];exact below_size HB.out:w.heap.size≤gb7));replace HB:=am_ (below_step HB.out hb);have EQ7:=am_ (hg);clear hb hbox hg;obtain ⟨cgb7_0,cgb7_1,cgb7_2,cgb7_3,cgb7_4,cgb7_5,cgb7_6,cgb7_7,cgb7_8,cgb7_9,cgb7_10,cgb7_11,cgb7_12,cgb7_13⟩:=xz14_ BK7)|((with_reducible refine gate_store (t:=180) (p:=7) (v:= .tmp 16) rfl ?_);refine store_all BK7.out 180 (.tmp 7) (.tmp 16) rfl rfl rfl (.agg #[.slice A l.length c, .string r2, .string r3, .int .i64 r4, .int .i64 r5, .int .i64 r6, .int .i64 r7, .int .i64 r8, .int .i64 r9, .int .i64 r10, .int .i64 r11, .int .i64 r12, .int .i64 r13, .bool false]) [.slice A l.length c, .string r2, .string r3, .int .i64 r4, .int .i64 r5, .int .i64 r6, .int .i64 r7, .int .i64 r8, .int .i64 r9, .int .i64 r10, .int .i64 r11, .int .i64 r12, .int .i64 r13, .bool false] rfl rfl rfl (by kernel_rfl) rfl (by intro q hq;simp only [List.mem_cons,List.not_mem_nil,or_false] at hq;rcases hq with rfl|rfl|rfl|rfl|rfl|rfl|rfl|rfl|rfl|rfl|rfl|rfl|rfl|rfl<;>rfl) ?_;intro w6 hbk hg;clear cgb7_0 cgb7_1 cgb7_2 cgb7_3 cgb7_4 cgb7_5 cgb7_6 cgb7_7 cgb7_8 cgb7_9 cgb7_10 cgb7_11 cgb7_12 cgb7_13;replace BK5:=am_ (blk_put_other BK5.out hg (NE5_7.out));replace HB:=am_ (below_put HB.out (below_size HB.out) hg GE7.out);replace BK7:=am_ (hbk);clear hbk hg;obtain ⟨cgb7_0,cgb7_1,cgb7_2,cgb7_3,cgb7_4,cgb7_5,cgb7_6,cgb7_7,cgb7_8,cgb7_9,cgb7_10,cgb7_11,cgb7_12,cgb7_13⟩:=xz14_ BK7;obtain ⟨cgb5_0,cgb5_1,cgb5_2,cgb5_3,cgb5_4,cgb5_5⟩:=xz6_ BK5)|((with_reducible refine gate_dst (N:=8) rfl ?_);refine bx_ (N:=8) (cs:=#[.slice none 0 0]) (t:=53) ?_;intro gb8 hg w7 hbox hb;have NE5_8:=am_ (show gb5≠gb8 from by have:=blk_lt BK5.out;rw [hg];exact Nat.ne_of_lt this);have LT5_8:=am_ (show gb5<gb8 from by have:=blk_lt BK5.out;rw [hg];exact this);have NE7_8:=am_ (show gb7≠gb8 from by have:=blk_lt BK7.out;rw [hg];exact Nat.ne_of_lt this);have LT7_8:=am_ (show gb7<gb8 from by have:=blk_lt BK7.out;rw [hg];exact this);replace BK5:=am_ (blk_below BK5.out hb);replace BK7:=am_ (blk_below BK7.out hb);have BK8:=am_ (hbox);have GE8:=am_ ((by rw [hg];exact below_size HB.out:w.heap.size≤gb8));replace HB:=am_ (below_step HB.out hb);have EQ8:=am_ (hg);clear hb hbox hg;have cgb8_0:=zz_ BK8 0;clear cgb5_0 cgb5_1 cgb5_2 cgb5_3 cgb5_4 cgb5_5 cgb7_0 cgb7_1 cgb7_2 cgb7_3 cgb7_4 cgb7_5 cgb7_6 cgb7_7 cgb7_8 cgb7_9 cgb7_10 cgb7_11 cgb7_12 cgb7_13;have cgb7_13:=zz_ BK7 13;obtain ⟨cgb5_0,cgb5_1,cgb5_2,cgb5_3,cgb5_4,cgb5_5⟩:=xz6_ BK5)|((with_reducible refine gate_dst (N:=9) rfl ?_);refine bx_ (N:=9) (cs:=#[.bool false]) (t:=4) ?_;intro gb9 hg w8 hbox hb;have NE5_9:=am_ (show gb5≠gb9 from by have:=blk_lt BK5.out;rw [hg];exact Nat.ne_of_lt this);have LT5_9:=am_ (show gb5<gb9 from by have:=blk_lt BK5.out;rw [hg];exact this);have NE7_9:=am_ (show gb7≠gb9 from by have:=blk_lt BK7.out;rw [hg];exact Nat.ne_of_lt this);have LT7_9:=am_ (show gb7<gb9 from by have:=blk_lt BK7.out;rw [hg];exact this);have NE8_9:=am_ (show gb8≠gb9 from by have:=blk_lt BK8.out;rw [hg];exact Nat.ne_of_lt this);have LT8_9:=am_ (show gb8<gb9 from by have:=blk_lt BK8.out;rw [hg];exact this);replace BK5:=am_ (blk_below BK5.out hb);replace BK7:=am_ (blk_below BK7.out hb);replace BK8:=am_ (blk_below BK8.out hb);have BK9:=am_ (hbox);have GE9:=am_ ((by rw [hg];exact below_size HB.out:w.heap.size≤gb9));replace HB:=am_ (below_step HB.out hb);have EQ9:=am_ (hg);clear hb hbox hg;have cgb9_0:=zz_ BK9 0)|((with_reducible refine gate_store (t:=4) (p:=9) (v:= .tmp 24) rfl ?_);refine store_all BK9.out 4 (.tmp 9) (.tmp 24) rfl rfl rfl (.bool true) [.bool true] rfl rfl rfl (by kernel_rfl) rfl (by intro q hq;simp only [List.mem_cons,List.not_mem_nil,or_false] at hq;rcases hq with rfl<;>rfl) ?_;intro w9 hbk hg;clear cgb9_0;replace BK5:=am_ (blk_put_other BK5.out hg (NE5_9.out));replace BK7:=am_ (blk_put_other BK7.out hg (NE7_9.out));replace BK8:=am_ (blk_put_other BK8.out hg (NE8_9.out));replace HB:=am_ (below_put HB.out (below_size HB.out) hg GE9.out);replace BK9:=am_ (hbk);clear hbk hg)))
  have HRR:=am_ (show r=effL mk s1 true l0 from HRQ.out);obtain ⟨in0,hin0⟩: ∃b,b=true:=⟨_,rfl⟩;rw [←hin0] at HRR BK9;obtain ⟨b14,hb14⟩: ∃b,b=false:=⟨_,rfl⟩;rw [←hb14] at BK7;clear HRQ hin0 hb14;rotate_left
  all_goals clear cgb8_0 cgb5_0 cgb5_1 cgb5_2 cgb5_3 cgb5_4 cgb5_5 cgb7_13
  all_goals (
    go_loopg [28] l0.length (fun kq v28 w'=> ∃(i:Nat) (acc:List S84) (u:Value) (inb:Bool),i≤l0.length∧l0.length - i≤kq∧v28= .int .i64 i∧Aside0 (r=acc++effL mk s1 inb (l0.drop i))∧Aside0 (acc.length≤2*i)∧Aside0 (Kd.R k84 84 w' (gb9+1) (fun _=>True) u acc)∧Aside0 (w'.heap[gb5]?=some (.cells #[.int .i64 s0, .string s1, .string s2, .int .i64 s3, .int .i64 s4, .int .i64 s5] 76 (0,0)))∧Aside0 (w'.heap[gb7]?=some (.cells #[.slice A l.length c, .string r2, .string r3, .int .i64 r4, .int .i64 r5, .int .i64 r6, .int .i64 r7, .int .i64 r8, .int .i64 r9, .int .i64 r10, .int .i64 r11, .int .i64 r12, .int .i64 r13, .bool b14] 180 (0,0)))∧Aside0 (w'.heap[gb8]?=some (.cells #[u] 53 (0,0)))∧Aside0 (w'.heap[gb9]?=some (.cells #[.bool inb] 4 (0,0)))∧Aside0 (Below w.heap.size w w'))
    case atStart=>exact ⟨0,[], .slice none 0 0,in0,Nat.zero_le _,Nat.le_refl _,rf_,⟨by rw [List.drop_zero,List.nil_append];exact HRR.out⟩,⟨Nat.le_refl _⟩,⟨Kd.R_nil _ _ _ _ _⟩,am_ (zb_ BK5),am_ (zb_ BK7),am_ (zb_ BK8),am_ (zb_ BK9),⟨zl0_ HB⟩⟩
    case round=>
      clear HRR BK5 BK7 BK8 BK9 HB;obtain ⟨i,acc,u,inb,hi,hm,rfl,HE,HAC,HO,BK5,BK7,BK8,BK9,HB⟩:=hrel;have HI:=Aside0.mk hi;have HM:=Aside0.mk hm;clear hi hm;obtain ⟨Au,cu,eu⟩:=Kd.R_slice HO.out;subst eu;by_cases c1:i<l0.length
      · have c1b : decide ((i : Int) < (l0.length : Int)) = true := decide_eq_true (by omega)
        have hrd:(rd_T84 l0 (i:Int))=l0[i]:=by
          show l0.getD (i:Int).toNat _=_
          rw [Int.toNat_natCast,List.getD_eq_getElem?_getD,List.getElem?_eq_getElem c1,Option.getD_some]
        have hdr:=HE.out
        rw [List.drop_eq_getElem_cons c1,←hrd] at hdr
        unfold effL at hdr
        have HE:=Aside0.mk hdr
        have HC:=Aside0.mk c1
        have ei:wrap64 ((i:Int)+1)=((i+1:Nat):Int):=by have:=HL.out;rw [show wrap64 ((i:Int)+1)=(i:Int)+1 from by unfold wrap64;omega];rfl
        have p6:0≤((i:Nat):Int):=by omega
        have q6:((i:Nat):Int)<(l0.length:Int):=by omega
        clear hrd hdr c1
        obtain ⟨ad,e6,k0,k1_,k2,k3,k4,k5⟩:=at_T84 HR0.out (i:Int) p6 q6
        cases e6
        have k0:=zx_ HB k0
        have k1_:=zx_ HB k1_
        have k2:=zx_ HB k2
        have k3:=zx_ HB k3
        have k4:=zx_ HB k4
        have k5:=zx_ HB k5
        simp only [Int.toNat_natCast] at k0 k1_ k2 k3 k4 k5
        replace p6:=eq_true p6
        replace q6:=eq_true q6
        cases inb with
        | true =>
          by_cases c2:(rd_T84 l0 (i:Int)).f0.toList=s1.toList
          · have c2b : ((rd_T84 l0 (i : Int)).f0.toList != s1.toList) = false := bne_eq_false_iff_eq.mpr c2
            have c2a:((rd_T84 l0 (i:Int)).f0.toList==s1.toList)=true:=beq_iff_eq.mpr c2
            have HR2:=am_ (show r=acc++effL mk s1 true (l0.drop (i+1)) from by rw [HE.out,if_neg (show¬(true=false∧Op.bytesLess (rd_T84 l0 (i:Int)).f0.toList s1.toList=false) from fun q=>nomatch q.1),if_neg (show¬(true=false∧Op.bytesLess (rd_T84 l0 (i:Int)).f0.toList s1.toList=false) from fun q=>nomatch q.1),if_pos c2];simp only [List.nil_append,List.append_assoc])
            clear HE c2
            go_wp2_with (first|((with_reducible refine gate_dst (N:=12) rfl ?_);refine bx_ (N:=12) (cs:=#[.string ⟨#[]⟩, .string ⟨#[]⟩, .int .i64 0, .int .i64 0, .int .i64 0, .int .i64 0]) (t:=84) ?_;intro gb12 hg w10 hbox hb;have NE5_12:=am_ (show gb5≠gb12 from by have:=blk_lt BK5.out;rw [hg];exact Nat.ne_of_lt this);have LT5_12:=am_ (show gb5<gb12 from by have:=blk_lt BK5.out;rw [hg];exact this);have NE7_12:=am_ (show gb7≠gb12 from by have:=blk_lt BK7.out;rw [hg];exact Nat.ne_of_lt this);have LT7_12:=am_ (show gb7<gb12 from by have:=blk_lt BK7.out;rw [hg];exact this);have NE8_12:=am_ (show gb8≠gb12 from by have:=blk_lt BK8.out;rw [hg];exact Nat.ne_of_lt this);have LT8_12:=am_ (show gb8<gb12 from by have:=blk_lt BK8.out;rw [hg];exact this);have NE9_12:=am_ (show gb9≠gb12 from by have:=blk_lt BK9.out;rw [hg];exact Nat.ne_of_lt this);have LT9_12:=am_ (show gb9<gb12 from by have:=blk_lt BK9.out;rw [hg];exact this);have HOn:=am_ (show Kd.R k84 84 w10 (gb9+1) (fun k=>k<gb12) _ acc from by rw [hg];exact Kd.R_below (eff_old HO.out) hb);clear HO;have HO:=HOn;clear HOn;replace BK5:=am_ (blk_below BK5.out hb);replace BK7:=am_ (blk_below BK7.out hb);replace BK8:=am_ (blk_below BK8.out hb);replace BK9:=am_ (blk_below BK9.out hb);have BK12:=am_ (hbox);have GE12:=am_ ((by rw [hg];exact below_size HB.out:w.heap.size≤gb12));replace HB:=am_ (below_step HB.out hb);have EQ12:=am_ (hg);clear hb hbox hg;obtain ⟨cgb12_0,cgb12_1,cgb12_2,cgb12_3,cgb12_4,cgb12_5⟩:=xz6_ BK12)|((with_reducible refine gate_store (t:=84) (p:=12) (v:= .tmp 31) rfl ?_);refine store_all BK12.out 84 (.tmp 12) (.tmp 31) rfl rfl rfl (.agg #[.string (rd_T84 l0 (i:Int)).f0, .string (rd_T84 l0 (i:Int)).f1, .int .i64 (rd_T84 l0 (i:Int)).f2.f0, .int .i64 (rd_T84 l0 (i:Int)).f2.f1, .int .i64 (rd_T84 l0 (i:Int)).f2.f2, .int .i64 (rd_T84 l0 (i:Int)).f3]) [.string (rd_T84 l0 (i:Int)).f0, .string (rd_T84 l0 (i:Int)).f1, .int .i64 (rd_T84 l0 (i:Int)).f2.f0, .int .i64 (rd_T84 l0 (i:Int)).f2.f1, .int .i64 (rd_T84 l0 (i:Int)).f2.f2, .int .i64 (rd_T84 l0 (i:Int)).f3] rfl rfl rfl (by kernel_rfl) rfl (by intro q hq;simp only [List.mem_cons,List.not_mem_nil,or_false] at hq;rcases hq with rfl|rfl|rfl|rfl|rfl|rfl<;>rfl) ?_;intro w11 hbk hg;clear cgb12_0 cgb12_1 cgb12_2 cgb12_3 cgb12_4 cgb12_5;have HOn:=am_ (eff_put_old HO.out hg);clear HO;have HO:=HOn;clear HOn;replace BK5:=am_ (blk_put_other BK5.out hg (NE5_12.out));replace BK7:=am_ (blk_put_other BK7.out hg (NE7_12.out));replace BK8:=am_ (blk_put_other BK8.out hg (NE8_12.out));replace BK9:=am_ (blk_put_other BK9.out hg (NE9_12.out));replace HB:=am_ (below_put HB.out (below_size HB.out) hg GE12.out);replace BK12:=am_ (hbk);clear hbk hg;obtain ⟨cgb12_0,cgb12_1,cgb12_2,cgb12_3,cgb12_4,cgb12_5⟩:=xz6_ BK12;have cgb5_1:=zz_ BK5 1;have cgb8_0:=zz_ BK8 0;have cgb9_0:=zz_ BK9 0)|((with_reducible refine gate_builtin (b:= .append) (xs:=#[.tmp 48, .tmp 50]) rfl ?_);at_builtin;refine Kd.R_append k84 (w0:=w11) (gb9+1) rfl (.tmp 48) (.tmp 50) 53 84 (.agg #[(.string ⟨#[]⟩),(.string ⟨#[]⟩),(.int .i64 0),(.int .i64 0),(.int .i64 0),(.int .i64 0)]) 64 rfl Try.underlying53 info84 rfl (by decide) (by omega) _ acc (rd_T84 l0 (i:Int)) [.string (rd_T84 l0 (i:Int)).f0, .string (rd_T84 l0 (i:Int)).f1, .int .i64 (rd_T84 l0 (i:Int)).f2.f0, .int .i64 (rd_T84 l0 (i:Int)).f2.f1, .int .i64 (rd_T84 l0 (i:Int)).f2.f2, .int .i64 (rd_T84 l0 (i:Int)).f3] (fun _=>True) (fun _=>False) rfl (by first|(go_simp;done)|(go_simp;rfl)) ?aP (fun _ hk=>hk.elim) ?aF ?aO ?aB ?aS ?aL ?_;(case aP=>exact k84_mkM _ _ _ (rd_T84 l0 (i:Int)));(case aF=>exact fun _ _=>trivial);(case aO=>exact Kd.R_mono HO.out (fun _ _=>trivial));(case aB=>exact Below.refl _ _);(case aS=>exact Nat.succ_le_of_lt (blk_lt BK9.out));(case aL=>have:=HAC.out;have:=HI.out;have:=HL.out;(try simp only [List.length_append,List.length_singleton]);omega);intro v5 w13 ho hb hg hat;have HG8:=Aside0.mk hg;have ne5:some gb5≠_:=Kd.R_ne HO.out BK5.out (by decide);have ne7:some gb7≠_:=Kd.R_ne HO.out BK7.out (by decide);have ne8:some gb8≠_:=Kd.R_ne HO.out BK8.out (by decide);have ne9:some gb9≠_:=Kd.R_ne HO.out BK9.out (by decide);have n0_:=am_ (blk_grown BK5.out hg ne5);have n1_:=am_ (blk_grown BK7.out hg ne7);have n2_:=am_ (blk_grown BK8.out hg ne8);have n3_:=am_ (blk_grown BK9.out hg ne9);have n4_:=Aside0.mk ho;have n5_:=am_ (pw_below_grown HB.out _ (below_size HB.out) hg (fun k e=>by have:=(eff_own HO.out k e).1;have:=GE8.out;have:=LT8_9.out;omega));clear BK5 BK7 BK8 BK9 BK12 HO HB;have BK5:=n0_;have BK7:=n1_;have BK8:=n2_;have BK9:=n3_;have HO:=n4_;have HB:=n5_;clear n0_ n1_ n2_ n3_ n4_ n5_ ho hb hg hat ne5 ne7 ne8 ne9;obtain ⟨Ao,co_,eo⟩:=Kd.R_slice HO.out;subst eo)|((with_reducible refine gate_store (t:=53) (p:=8) (v:= .tmp 51) rfl ?_);refine store_all BK8.out 53 (.tmp 8) (.tmp 51) rfl rfl rfl _ [_] rfl rfl rfl (by kernel_rfl) rfl (by intro q hq;simp only [List.mem_cons,List.not_mem_nil,or_false] at hq;rcases hq with rfl;rfl) ?_;intro w14 hbk hg;have n0_:=am_ (blk_put_other BK5.out hg (by have:=LT5_8.out;omega));have n1_:=am_ (blk_put_other BK7.out hg (by have:=LT7_8.out;omega));have n2_:=am_ (blk_put_other BK9.out hg (by have:=LT8_9.out;omega));have n3_:=am_ (R_put HO.out BK8.out (by decide) hg);have n4_:=am_ (below_put HB.out (below_size HB.out) hg GE8.out);have n5_:=Aside0.mk hbk;clear BK5 BK7 BK8 BK9 HO HB hbk hg;have BK5:=n0_;have BK7:=n1_;have BK9:=n2_;have HO:=n3_;have HB:=n4_;have BK8:=n5_;clear n0_ n1_ n2_ n3_ n4_ n5_))
            go_roundg (l0.length - (i+1))
            case measure=>have:=HM.out;have:=HC.out;omega
            case rel=>exact ⟨i+1,_,_,_,(by have:=HC.out;omega),Nat.le_refl _,(by first|rfl|(rw [ei];done)|(simp [ei];done)|(simp [*];done)),HR2,⟨by have:=HAC.out;(try simp only [List.length_append,List.length_singleton]);omega⟩,⟨Kd.R_mono HO.out (fun _ _=>trivial)⟩,BK5,BK7,BK8,BK9,HB⟩
          · have c2b : ((rd_T84 l0 (i : Int)).f0.toList != s1.toList) = true := bne_iff_ne.mpr c2
            have c2a:((rd_T84 l0 (i:Int)).f0.toList==s1.toList)=false:=beq_eq_false_iff_ne.mpr c2
            have HR2:=am_ (show r=(acc++ [(rd_T84 l0 (i:Int))])++effL mk s1 true (l0.drop (i+1)) from by rw [HE.out,if_neg (show¬(true=false∧Op.bytesLess (rd_T84 l0 (i:Int)).f0.toList s1.toList=false) from fun q=>nomatch q.1),if_neg (show¬(true=false∧Op.bytesLess (rd_T84 l0 (i:Int)).f0.toList s1.toList=false) from fun q=>nomatch q.1),if_neg c2];simp only [List.nil_append,List.append_assoc])
            clear HE c2
            go_wp2_with (first|((with_reducible refine gate_dst (N:=12) rfl ?_);refine bx_ (N:=12) (cs:=#[.string ⟨#[]⟩, .string ⟨#[]⟩, .int .i64 0, .int .i64 0, .int .i64 0, .int .i64 0]) (t:=84) ?_;intro gb12 hg w10 hbox hb;have NE5_12:=am_ (show gb5≠gb12 from by have:=blk_lt BK5.out;rw [hg];exact Nat.ne_of_lt this);have LT5_12:=am_ (show gb5<gb12 from by have:=blk_lt BK5.out;rw [hg];exact this);have NE7_12:=am_ (show gb7≠gb12 from by have:=blk_lt BK7.out;rw [hg];exact Nat.ne_of_lt this);have LT7_12:=am_ (show gb7<gb12 from by have:=blk_lt BK7.out;rw [hg];exact this);have NE8_12:=am_ (show gb8≠gb12 from by have:=blk_lt BK8.out;rw [hg];exact Nat.ne_of_lt this);have LT8_12:=am_ (show gb8<gb12 from by have:=blk_lt BK8.out;rw [hg];exact this);have NE9_12:=am_ (show gb9≠gb12 from by have:=blk_lt BK9.out;rw [hg];exact Nat.ne_of_lt this);have LT9_12:=am_ (show gb9<gb12 from by have:=blk_lt BK9.out;rw [hg];exact this);have HOn:=am_ (show Kd.R k84 84 w10 (gb9+1) (fun k=>k<gb12) _ acc from by rw [hg];exact Kd.R_below (eff_old HO.out) hb);clear HO;have HO:=HOn;clear HOn;replace BK5:=am_ (blk_below BK5.out hb);replace BK7:=am_ (blk_below BK7.out hb);replace BK8:=am_ (blk_below BK8.out hb);replace BK9:=am_ (blk_below BK9.out hb);have BK12:=am_ (hbox);have GE12:=am_ ((by rw [hg];exact below_size HB.out:w.heap.size≤gb12));replace HB:=am_ (below_step HB.out hb);have EQ12:=am_ (hg);clear hb hbox hg;obtain ⟨cgb12_0,cgb12_1,cgb12_2,cgb12_3,cgb12_4,cgb12_5⟩:=xz6_ BK12)|((with_reducible refine gate_store (t:=84) (p:=12) (v:= .tmp 31) rfl ?_);refine store_all BK12.out 84 (.tmp 12) (.tmp 31) rfl rfl rfl (.agg #[.string (rd_T84 l0 (i:Int)).f0, .string (rd_T84 l0 (i:Int)).f1, .int .i64 (rd_T84 l0 (i:Int)).f2.f0, .int .i64 (rd_T84 l0 (i:Int)).f2.f1, .int .i64 (rd_T84 l0 (i:Int)).f2.f2, .int .i64 (rd_T84 l0 (i:Int)).f3]) [.string (rd_T84 l0 (i:Int)).f0, .string (rd_T84 l0 (i:Int)).f1, .int .i64 (rd_T84 l0 (i:Int)).f2.f0, .int .i64 (rd_T84 l0 (i:Int)).f2.f1, .int .i64 (rd_T84 l0 (i:Int)).f2.f2, .int .i64 (rd_T84 l0 (i:Int)).f3] rfl rfl rfl (by kernel_rfl) rfl (by intro q hq;simp only [List.mem_cons,List.not_mem_nil,or_false] at hq;rcases hq with rfl|rfl|rfl|rfl|rfl|rfl<;>rfl) ?_;intro w11 hbk hg;clear cgb12_0 cgb12_1 cgb12_2 cgb12_3 cgb12_4 cgb12_5;have HOn:=am_ (eff_put_old HO.out hg);clear HO;have HO:=HOn;clear HOn;replace BK5:=am_ (blk_put_other BK5.out hg (NE5_12.out));replace BK7:=am_ (blk_put_other BK7.out hg (NE7_12.out));replace BK8:=am_ (blk_put_other BK8.out hg (NE8_12.out));replace BK9:=am_ (blk_put_other BK9.out hg (NE9_12.out));replace HB:=am_ (below_put HB.out (below_size HB.out) hg GE12.out);replace BK12:=am_ (hbk);clear hbk hg;obtain ⟨cgb12_0,cgb12_1,cgb12_2,cgb12_3,cgb12_4,cgb12_5⟩:=xz6_ BK12;have cgb5_1:=zz_ BK5 1;have cgb8_0:=zz_ BK8 0;have cgb9_0:=zz_ BK9 0)|((with_reducible refine gate_builtin (b:= .append) (xs:=#[.tmp 48, .tmp 50]) rfl ?_);at_builtin;refine Kd.R_append k84 (w0:=w11) (gb9+1) rfl (.tmp 48) (.tmp 50) 53 84 (.agg #[(.string ⟨#[]⟩),(.string ⟨#[]⟩),(.int .i64 0),(.int .i64 0),(.int .i64 0),(.int .i64 0)]) 64 rfl Try.underlying53 info84 rfl (by decide) (by omega) _ acc (rd_T84 l0 (i:Int)) [.string (rd_T84 l0 (i:Int)).f0, .string (rd_T84 l0 (i:Int)).f1, .int .i64 (rd_T84 l0 (i:Int)).f2.f0, .int .i64 (rd_T84 l0 (i:Int)).f2.f1, .int .i64 (rd_T84 l0 (i:Int)).f2.f2, .int .i64 (rd_T84 l0 (i:Int)).f3] (fun _=>True) (fun _=>False) rfl (by first|(go_simp;done)|(go_simp;rfl)) ?aP (fun _ hk=>hk.elim) ?aF ?aO ?aB ?aS ?aL ?_;(case aP=>exact k84_mkM _ _ _ (rd_T84 l0 (i:Int)));(case aF=>exact fun _ _=>trivial);(case aO=>exact Kd.R_mono HO.out (fun _ _=>trivial));(case aB=>exact Below.refl _ _);(case aS=>exact Nat.succ_le_of_lt (blk_lt BK9.out));(case aL=>have:=HAC.out;have:=HI.out;have:=HL.out;(try simp only [List.length_append,List.length_singleton]);omega);intro v5 w13 ho hb hg hat;have HG8:=Aside0.mk hg;have ne5:some gb5≠_:=Kd.R_ne HO.out BK5.out (by decide);have ne7:some gb7≠_:=Kd.R_ne HO.out BK7.out (by decide);have ne8:some gb8≠_:=Kd.R_ne HO.out BK8.out (by decide);have ne9:some gb9≠_:=Kd.R_ne HO.out BK9.out (by decide);have n0_:=am_ (blk_grown BK5.out hg ne5);have n1_:=am_ (blk_grown BK7.out hg ne7);have n2_:=am_ (blk_grown BK8.out hg ne8);have n3_:=am_ (blk_grown BK9.out hg ne9);have n4_:=Aside0.mk ho;have n5_:=am_ (pw_below_grown HB.out _ (below_size HB.out) hg (fun k e=>by have:=(eff_own HO.out k e).1;have:=GE8.out;have:=LT8_9.out;omega));clear BK5 BK7 BK8 BK9 BK12 HO HB;have BK5:=n0_;have BK7:=n1_;have BK8:=n2_;have BK9:=n3_;have HO:=n4_;have HB:=n5_;clear n0_ n1_ n2_ n3_ n4_ n5_ ho hb hg hat ne5 ne7 ne8 ne9;obtain ⟨Ao,co_,eo⟩:=Kd.R_slice HO.out;subst eo)|((with_reducible refine gate_store (t:=53) (p:=8) (v:= .tmp 51) rfl ?_);refine store_all BK8.out 53 (.tmp 8) (.tmp 51) rfl rfl rfl _ [_] rfl rfl rfl (by kernel_rfl) rfl (by intro q hq;simp only [List.mem_cons,List.not_mem_nil,or_false] at hq;rcases hq with rfl;rfl) ?_;intro w14 hbk hg;have n0_:=am_ (blk_put_other BK5.out hg (by have:=LT5_8.out;omega));have n1_:=am_ (blk_put_other BK7.out hg (by have:=LT7_8.out;omega));have n2_:=am_ (blk_put_other BK9.out hg (by have:=LT8_9.out;omega));have n3_:=am_ (R_put HO.out BK8.out (by decide) hg);have n4_:=am_ (below_put HB.out (below_size HB.out) hg GE8.out);have n5_:=Aside0.mk hbk;clear BK5 BK7 BK8 BK9 HO HB hbk hg;have BK5:=n0_;have BK7:=n1_;have BK9:=n2_;have HO:=n3_;have HB:=n4_;have BK8:=n5_;clear n0_ n1_ n2_ n3_ n4_ n5_))
            go_roundg (l0.length - (i+1))
            case measure=>have:=HM.out;have:=HC.out;omega
            case rel=>exact ⟨i+1,_,_,_,(by have:=HC.out;omega),Nat.le_refl _,(by first|rfl|(rw [ei];done)|(simp [ei];done)|(simp [*];done)),HR2,⟨by have:=HAC.out;(try simp only [List.length_append,List.length_singleton]);omega⟩,⟨Kd.R_mono HO.out (fun _ _=>trivial)⟩,BK5,BK7,BK8,BK9,HB⟩
        | false =>
          by_cases cl:Op.bytesLess (rd_T84 l0 (i:Int)).f0.toList s1.toList=false
          · skip
            by_cases c2:(rd_T84 l0 (i:Int)).f0.toList=s1.toList
            · have c2b : ((rd_T84 l0 (i : Int)).f0.toList != s1.toList) = false := bne_eq_false_iff_eq.mpr c2
              have c2a:((rd_T84 l0 (i:Int)).f0.toList==s1.toList)=true:=beq_iff_eq.mpr c2
              have HR2:=am_ (show r=(acc++ [mk])++effL mk s1 true (l0.drop (i+1)) from by rw [HE.out,if_pos (show false=false∧Op.bytesLess (rd_T84 l0 (i:Int)).f0.toList s1.toList=false from ⟨rfl,cl⟩),if_pos (show false=false∧Op.bytesLess (rd_T84 l0 (i:Int)).f0.toList s1.toList=false from ⟨rfl,cl⟩),if_pos c2];simp only [List.nil_append,List.append_assoc])
              clear HE c2
              go_wp2_with (first|((with_reducible refine gate_dst (N:=12) rfl ?_);refine bx_ (N:=12) (cs:=#[.string ⟨#[]⟩, .string ⟨#[]⟩, .int .i64 0, .int .i64 0, .int .i64 0, .int .i64 0]) (t:=84) ?_;intro gb12 hg w10 hbox hb;have NE5_12:=am_ (show gb5≠gb12 from by have:=blk_lt BK5.out;rw [hg];exact Nat.ne_of_lt this);have LT5_12:=am_ (show gb5<gb12 from by have:=blk_lt BK5.out;rw [hg];exact this);have NE7_12:=am_ (show gb7≠gb12 from by have:=blk_lt BK7.out;rw [hg];exact Nat.ne_of_lt this);have LT7_12:=am_ (show gb7<gb12 from by have:=blk_lt BK7.out;rw [hg];exact this);have NE8_12:=am_ (show gb8≠gb12 from by have:=blk_lt BK8.out;rw [hg];exact Nat.ne_of_lt this);have LT8_12:=am_ (show gb8<gb12 from by have:=blk_lt BK8.out;rw [hg];exact this);have NE9_12:=am_ (show gb9≠gb12 from by have:=blk_lt BK9.out;rw [hg];exact Nat.ne_of_lt this);have LT9_12:=am_ (show gb9<gb12 from by have:=blk_lt BK9.out;rw [hg];exact this);have HOn:=am_ (show Kd.R k84 84 w10 (gb9+1) (fun k=>k<gb12) _ acc from by rw [hg];exact Kd.R_below (eff_old HO.out) hb);clear HO;have HO:=HOn;clear HOn;replace BK5:=am_ (blk_below BK5.out hb);replace BK7:=am_ (blk_below BK7.out hb);replace BK8:=am_ (blk_below BK8.out hb);replace BK9:=am_ (blk_below BK9.out hb);have BK12:=am_ (hbox);have GE12:=am_ ((by rw [hg];exact below_size HB.out:w.heap.size≤gb12));replace HB:=am_ (below_step HB.out hb);have EQ12:=am_ (hg);clear hb hbox hg;obtain ⟨cgb12_0,cgb12_1,cgb12_2,cgb12_3,cgb12_4,cgb12_5⟩:=xz6_ BK12)|((with_reducible refine gate_store (t:=84) (p:=12) (v:= .tmp 31) rfl ?_);refine store_all BK12.out 84 (.tmp 12) (.tmp 31) rfl rfl rfl (.agg #[.string (rd_T84 l0 (i:Int)).f0, .string (rd_T84 l0 (i:Int)).f1, .int .i64 (rd_T84 l0 (i:Int)).f2.f0, .int .i64 (rd_T84 l0 (i:Int)).f2.f1, .int .i64 (rd_T84 l0 (i:Int)).f2.f2, .int .i64 (rd_T84 l0 (i:Int)).f3]) [.string (rd_T84 l0 (i:Int)).f0, .string (rd_T84 l0 (i:Int)).f1, .int .i64 (rd_T84 l0 (i:Int)).f2.f0, .int .i64 (rd_T84 l0 (i:Int)).f2.f1, .int .i64 (rd_T84 l0 (i:Int)).f2.f2, .int .i64 (rd_T84 l0 (i:Int)).f3] rfl rfl rfl (by kernel_rfl) rfl (by intro q hq;simp only [List.mem_cons,List.not_mem_nil,or_false] at hq;rcases hq with rfl|rfl|rfl|rfl|rfl|rfl<;>rfl) ?_;intro w11 hbk hg;clear cgb12_0 cgb12_1 cgb12_2 cgb12_3 cgb12_4 cgb12_5;have HOn:=am_ (eff_put_old HO.out hg);clear HO;have HO:=HOn;clear HOn;replace BK5:=am_ (blk_put_other BK5.out hg (NE5_12.out));replace BK7:=am_ (blk_put_other BK7.out hg (NE7_12.out));replace BK8:=am_ (blk_put_other BK8.out hg (NE8_12.out));replace BK9:=am_ (blk_put_other BK9.out hg (NE9_12.out));replace HB:=am_ (below_put HB.out (below_size HB.out) hg GE12.out);replace BK12:=am_ (hbk);clear hbk hg;obtain ⟨cgb12_0,cgb12_1,cgb12_2,cgb12_3,cgb12_4,cgb12_5⟩:=xz6_ BK12;have cgb5_1:=zz_ BK5 1;have cgb8_0:=zz_ BK8 0;have cgb9_0:=zz_ BK9 0))
              refine (effPut_calls _ w.heap.size gb8 gb5 gb7 gb9 (gb9+1) l.length A c _ false acc s0 s3 s4 s5 s1 s2 r2 r3 r4 r5 r6 r7 r8 r9 r10 r11 r12 r13 b14 BK8.out BK5.out BK7.out BK9.out (by have:=GE8.out;omega) LT8_9.out (Nat.lt_succ_self _) (Nat.succ_le_of_lt (blk_lt BK9.out)) (Kd.R_mono HO.out (fun _ _=>trivial)) (by have:=HAC.out;have:=HI.out;have:=HL.out;omega)).mono ?_
              rintro e w12 ⟨rfl,v2,hbo,hbi,ho,hk,hb⟩
              rw [←HMK.out] at ho
              have n0_:=am_ ((hk.2 gb5 (blk_lt BK5.out) (by have:=LT5_8.out;omega) (by have:=LT5_9.out;omega) (Kd.R_ne HO.out BK5.out (by decide))).trans BK5.out)
              have n1_:=am_ ((hk.2 gb7 (blk_lt BK7.out) (by have:=LT7_8.out;omega) (by have:=LT7_9.out;omega) (Kd.R_ne HO.out BK7.out (by decide))).trans BK7.out)
              have n2_:=am_ ((hk.2 gb12 (blk_lt BK12.out) (by have:=LT8_12.out;omega) (by have:=LT9_12.out;omega) (eff_ne_old HO.out)).trans BK12.out)
              have n3_:=am_ (HB.out.trans hb)
              clear cgb5_1 cgb8_0 cgb9_0 cgb12_0 cgb12_1 cgb12_2 cgb12_3 cgb12_4 cgb12_5 BK5 BK7 BK8 BK9 BK12 HB HO
              have BK5:=n0_
              have BK7:=n1_
              have BK12:=n2_
              have HB:=n3_
              have BK8:=Aside0.mk hbo
              have BK9:=Aside0.mk hbi
              have HO:=Aside0.mk ho
              clear n0_ n1_ n2_ n3_ hbo hbi ho hk hb
              obtain ⟨Ap_,cp_,ep_⟩:=Kd.R_slice HO.out
              subst ep_
              simp only [List.length_append,List.length_cons,List.length_nil,Nat.zero_add] at HO BK8
              have cgb5_1:=zz_ BK5 1
              have cgb8_0:=zz_ BK8 0
              have cgb9_0:=zz_ BK9 0
              obtain ⟨cgb12_0,cgb12_1,cgb12_2,cgb12_3,cgb12_4,cgb12_5⟩:=xz6_ BK12
              go_wp2_with (first|((with_reducible refine gate_builtin (b:= .append) (xs:=#[.tmp 48, .tmp 50]) rfl ?_);at_builtin;refine Kd.R_append k84 (w0:=w12) (gb9+1) rfl (.tmp 48) (.tmp 50) 53 84 (.agg #[(.string ⟨#[]⟩),(.string ⟨#[]⟩),(.int .i64 0),(.int .i64 0),(.int .i64 0),(.int .i64 0)]) 64 rfl Try.underlying53 info84 rfl (by decide) (by omega) _ (acc++ [mk]) (rd_T84 l0 (i:Int)) [.string (rd_T84 l0 (i:Int)).f0, .string (rd_T84 l0 (i:Int)).f1, .int .i64 (rd_T84 l0 (i:Int)).f2.f0, .int .i64 (rd_T84 l0 (i:Int)).f2.f1, .int .i64 (rd_T84 l0 (i:Int)).f2.f2, .int .i64 (rd_T84 l0 (i:Int)).f3] (fun _=>True) (fun _=>False) rfl (by first|(go_simp;done)|(go_simp;rfl)) ?aP (fun _ hk=>hk.elim) ?aF ?aO ?aB ?aS ?aL ?_;(case aP=>exact k84_mkM _ _ _ (rd_T84 l0 (i:Int)));(case aF=>exact fun _ _=>trivial);(case aO=>exact Kd.R_mono HO.out (fun _ _=>trivial));(case aB=>exact Below.refl _ _);(case aS=>exact Nat.succ_le_of_lt (blk_lt BK9.out));(case aL=>have:=HAC.out;have:=HI.out;have:=HL.out;(try simp only [List.length_append,List.length_singleton]);omega);intro v5 w13 ho hb hg hat;have HG8:=Aside0.mk hg;have ne5:some gb5≠_:=Kd.R_ne HO.out BK5.out (by decide);have ne7:some gb7≠_:=Kd.R_ne HO.out BK7.out (by decide);have ne8:some gb8≠_:=Kd.R_ne HO.out BK8.out (by decide);have ne9:some gb9≠_:=Kd.R_ne HO.out BK9.out (by decide);have n0_:=am_ (blk_grown BK5.out hg ne5);have n1_:=am_ (blk_grown BK7.out hg ne7);have n2_:=am_ (blk_grown BK8.out hg ne8);have n3_:=am_ (blk_grown BK9.out hg ne9);have n4_:=Aside0.mk ho;have n5_:=am_ (pw_below_grown HB.out _ (below_size HB.out) hg (fun k e=>by have:=(eff_own HO.out k e).1;have:=GE8.out;have:=LT8_9.out;omega));clear BK5 BK7 BK8 BK9 BK12 HO HB;have BK5:=n0_;have BK7:=n1_;have BK8:=n2_;have BK9:=n3_;have HO:=n4_;have HB:=n5_;clear n0_ n1_ n2_ n3_ n4_ n5_ ho hb hg hat ne5 ne7 ne8 ne9;obtain ⟨Ao,co_,eo⟩:=Kd.R_slice HO.out;subst eo)|((with_reducible refine gate_store (t:=53) (p:=8) (v:= .tmp 51) rfl ?_);refine store_all BK8.out 53 (.tmp 8) (.tmp 51) rfl rfl rfl _ [_] rfl rfl rfl (by kernel_rfl) rfl (by intro q hq;simp only [List.mem_cons,List.not_mem_nil,or_false] at hq;rcases hq with rfl;rfl) ?_;intro w14 hbk hg;have n0_:=am_ (blk_put_other BK5.out hg (by have:=LT5_8.out;omega));have n1_:=am_ (blk_put_other BK7.out hg (by have:=LT7_8.out;omega));have n2_:=am_ (blk_put_other BK9.out hg (by have:=LT8_9.out;omega));have n3_:=am_ (R_put HO.out BK8.out (by decide) hg);have n4_:=am_ (below_put HB.out (below_size HB.out) hg GE8.out);have n5_:=Aside0.mk hbk;clear BK5 BK7 BK8 BK9 HO HB hbk hg;have BK5:=n0_;have BK7:=n1_;have BK9:=n2_;have HO:=n3_;have HB:=n4_;have BK8:=n5_;clear n0_ n1_ n2_ n3_ n4_ n5_))
              go_roundg (l0.length - (i+1))
              case measure=>have:=HM.out;have:=HC.out;omega
              case rel=>exact ⟨i+1,_,_,_,(by have:=HC.out;omega),Nat.le_refl _,(by first|rfl|(rw [ei];done)|(simp [ei];done)|(simp [*];done)),HR2,⟨by have:=HAC.out;(try simp only [List.length_append,List.length_singleton]);omega⟩,⟨Kd.R_mono HO.out (fun _ _=>trivial)⟩,BK5,BK7,BK8,BK9,HB⟩
            · have c2b : ((rd_T84 l0 (i : Int)).f0.toList != s1.toList) = true := bne_iff_ne.mpr c2
              have c2a:((rd_T84 l0 (i:Int)).f0.toList==s1.toList)=false:=beq_eq_false_iff_ne.mpr c2
              have HR2:=am_ (show r=((acc++ [mk])++ [(rd_T84 l0 (i:Int))])++effL mk s1 true (l0.drop (i+1)) from by rw [HE.out,if_pos (show false=false∧Op.bytesLess (rd_T84 l0 (i:Int)).f0.toList s1.toList=false from ⟨rfl,cl⟩),if_pos (show false=false∧Op.bytesLess (rd_T84 l0 (i:Int)).f0.toList s1.toList=false from ⟨rfl,cl⟩),if_neg c2];simp only [List.nil_append,List.append_assoc])
              clear HE c2
              go_wp2_with (first|((with_reducible refine gate_dst (N:=12) rfl ?_);refine bx_ (N:=12) (cs:=#[.string ⟨#[]⟩, .string ⟨#[]⟩, .int .i64 0, .int .i64 0, .int .i64 0, .int .i64 0]) (t:=84) ?_;intro gb12 hg w10 hbox hb;have NE5_12:=am_ (show gb5≠gb12 from by have:=blk_lt BK5.out;rw [hg];exact Nat.ne_of_lt this);have LT5_12:=am_ (show gb5<gb12 from by have:=blk_lt BK5.out;rw [hg];exact this);have NE7_12:=am_ (show gb7≠gb12 from by have:=blk_lt BK7.out;rw [hg];exact Nat.ne_of_lt this);have LT7_12:=am_ (show gb7<gb12 from by have:=blk_lt BK7.out;rw [hg];exact this);have NE8_12:=am_ (show gb8≠gb12 from by have:=blk_lt BK8.out;rw [hg];exact Nat.ne_of_lt this);have LT8_12:=am_ (show gb8<gb12 from by have:=blk_lt BK8.out;rw [hg];exact this);have NE9_12:=am_ (show gb9≠gb12 from by have:=blk_lt BK9.out;rw [hg];exact Nat.ne_of_lt this);have LT9_12:=am_ (show gb9<gb12 from by have:=blk_lt BK9.out;rw [hg];exact this);have HOn:=am_ (show Kd.R k84 84 w10 (gb9+1) (fun k=>k<gb12) _ acc from by rw [hg];exact Kd.R_below (eff_old HO.out) hb);clear HO;have HO:=HOn;clear HOn;replace BK5:=am_ (blk_below BK5.out hb);replace BK7:=am_ (blk_below BK7.out hb);replace BK8:=am_ (blk_below BK8.out hb);replace BK9:=am_ (blk_below BK9.out hb);have BK12:=am_ (hbox);have GE12:=am_ ((by rw [hg];exact below_size HB.out:w.heap.size≤gb12));replace HB:=am_ (below_step HB.out hb);have EQ12:=am_ (hg);clear hb hbox hg;obtain ⟨cgb12_0,cgb12_1,cgb12_2,cgb12_3,cgb12_4,cgb12_5⟩:=xz6_ BK12)|((with_reducible refine gate_store (t:=84) (p:=12) (v:= .tmp 31) rfl ?_);refine store_all BK12.out 84 (.tmp 12) (.tmp 31) rfl rfl rfl (.agg #[.string (rd_T84 l0 (i:Int)).f0, .string (rd_T84 l0 (i:Int)).f1, .int .i64 (rd_T84 l0 (i:Int)).f2.f0, .int .i64 (rd_T84 l0 (i:Int)).f2.f1, .int .i64 (rd_T84 l0 (i:Int)).f2.f2, .int .i64 (rd_T84 l0 (i:Int)).f3]) [.string (rd_T84 l0 (i:Int)).f0, .string (rd_T84 l0 (i:Int)).f1, .int .i64 (rd_T84 l0 (i:Int)).f2.f0, .int .i64 (rd_T84 l0 (i:Int)).f2.f1, .int .i64 (rd_T84 l0 (i:Int)).f2.f2, .int .i64 (rd_T84 l0 (i:Int)).f3] rfl rfl rfl (by kernel_rfl) rfl (by intro q hq;simp only [List.mem_cons,List.not_mem_nil,or_false] at hq;rcases hq with rfl|rfl|rfl|rfl|rfl|rfl<;>rfl) ?_;intro w11 hbk hg;clear cgb12_0 cgb12_1 cgb12_2 cgb12_3 cgb12_4 cgb12_5;have HOn:=am_ (eff_put_old HO.out hg);clear HO;have HO:=HOn;clear HOn;replace BK5:=am_ (blk_put_other BK5.out hg (NE5_12.out));replace BK7:=am_ (blk_put_other BK7.out hg (NE7_12.out));replace BK8:=am_ (blk_put_other BK8.out hg (NE8_12.out));replace BK9:=am_ (blk_put_other BK9.out hg (NE9_12.out));replace HB:=am_ (below_put HB.out (below_size HB.out) hg GE12.out);replace BK12:=am_ (hbk);clear hbk hg;obtain ⟨cgb12_0,cgb12_1,cgb12_2,cgb12_3,cgb12_4,cgb12_5⟩:=xz6_ BK12;have cgb5_1:=zz_ BK5 1;have cgb8_0:=zz_ BK8 0;have cgb9_0:=zz_ BK9 0))
              refine (effPut_calls _ w.heap.size gb8 gb5 gb7 gb9 (gb9+1) l.length A c _ false acc s0 s3 s4 s5 s1 s2 r2 r3 r4 r5 r6 r7 r8 r9 r10 r11 r12 r13 b14 BK8.out BK5.out BK7.out BK9.out (by have:=GE8.out;omega) LT8_9.out (Nat.lt_succ_self _) (Nat.succ_le_of_lt (blk_lt BK9.out)) (Kd.R_mono HO.out (fun _ _=>trivial)) (by have:=HAC.out;have:=HI.out;have:=HL.out;omega)).mono ?_
              rintro e w12 ⟨rfl,v2,hbo,hbi,ho,hk,hb⟩
              rw [←HMK.out] at ho
              have n0_:=am_ ((hk.2 gb5 (blk_lt BK5.out) (by have:=LT5_8.out;omega) (by have:=LT5_9.out;omega) (Kd.R_ne HO.out BK5.out (by decide))).trans BK5.out)
              have n1_:=am_ ((hk.2 gb7 (blk_lt BK7.out) (by have:=LT7_8.out;omega) (by have:=LT7_9.out;omega) (Kd.R_ne HO.out BK7.out (by decide))).trans BK7.out)
              have n2_:=am_ ((hk.2 gb12 (blk_lt BK12.out) (by have:=LT8_12.out;omega) (by have:=LT9_12.out;omega) (eff_ne_old HO.out)).trans BK12.out)
              have n3_:=am_ (HB.out.trans hb)
              clear cgb5_1 cgb8_0 cgb9_0 cgb12_0 cgb12_1 cgb12_2 cgb12_3 cgb12_4 cgb12_5 BK5 BK7 BK8 BK9 BK12 HB HO
              have BK5:=n0_
              have BK7:=n1_
              have BK12:=n2_
              have HB:=n3_
              have BK8:=Aside0.mk hbo
              have BK9:=Aside0.mk hbi
              have HO:=Aside0.mk ho
              clear n0_ n1_ n2_ n3_ hbo hbi ho hk hb
              obtain ⟨Ap_,cp_,ep_⟩:=Kd.R_slice HO.out
              subst ep_
              simp only [List.length_append,List.length_cons,List.length_nil,Nat.zero_add] at HO BK8
              have cgb5_1:=zz_ BK5 1
              have cgb8_0:=zz_ BK8 0
              have cgb9_0:=zz_ BK9 0
              obtain ⟨cgb12_0,cgb12_1,cgb12_2,cgb12_3,cgb12_4,cgb12_5⟩:=xz6_ BK12
              go_wp2_with (first|((with_reducible refine gate_builtin (b:= .append) (xs:=#[.tmp 48, .tmp 50]) rfl ?_);at_builtin;refine Kd.R_append k84 (w0:=w12) (gb9+1) rfl (.tmp 48) (.tmp 50) 53 84 (.agg #[(.string ⟨#[]⟩),(.string ⟨#[]⟩),(.int .i64 0),(.int .i64 0),(.int .i64 0),(.int .i64 0)]) 64 rfl Try.underlying53 info84 rfl (by decide) (by omega) _ (acc++ [mk]) (rd_T84 l0 (i:Int)) [.string (rd_T84 l0 (i:Int)).f0, .string (rd_T84 l0 (i:Int)).f1, .int .i64 (rd_T84 l0 (i:Int)).f2.f0, .int .i64 (rd_T84 l0 (i:Int)).f2.f1, .int .i64 (rd_T84 l0 (i:Int)).f2.f2, .int .i64 (rd_T84 l0 (i:Int)).f3] (fun _=>True) (fun _=>False) rfl (by first|(go_simp;done)|(go_simp;rfl)) ?aP (fun _ hk=>hk.elim) ?aF ?aO ?aB ?aS ?aL ?_;(case aP=>exact k84_mkM _ _ _ (rd_T84 l0 (i:Int)));(case aF=>exact fun _ _=>trivial);(case aO=>exact Kd.R_mono HO.out (fun _ _=>trivial));(case aB=>exact Below.refl _ _);(case aS=>exact Nat.succ_le_of_lt (blk_lt BK9.out));(case aL=>have:=HAC.out;have:=HI.out;have:=HL.out;(try simp only [List.length_append,List.length_singleton]);omega);intro v5 w13 ho hb hg hat;have HG8:=Aside0.mk hg;have ne5:some gb5≠_:=Kd.R_ne HO.out BK5.out (by decide);have ne7:some gb7≠_:=Kd.R_ne HO.out BK7.out (by decide);have ne8:some gb8≠_:=Kd.R_ne HO.out BK8.out (by decide);have ne9:some gb9≠_:=Kd.R_ne HO.out BK9.out (by decide);have n0_:=am_ (blk_grown BK5.out hg ne5);have n1_:=am_ (blk_grown BK7.out hg ne7);have n2_:=am_ (blk_grown BK8.out hg ne8);have n3_:=am_ (blk_grown BK9.out hg ne9);have n4_:=Aside0.mk ho;have n5_:=am_ (pw_below_grown HB.out _ (below_size HB.out) hg (fun k e=>by have:=(eff_own HO.out k e).1;have:=GE8.out;have:=LT8_9.out;omega));clear BK5 BK7 BK8 BK9 BK12 HO HB;have BK5:=n0_;have BK7:=n1_;have BK8:=n2_;have BK9:=n3_;have HO:=n4_;have HB:=n5_;clear n0_ n1_ n2_ n3_ n4_ n5_ ho hb hg hat ne5 ne7 ne8 ne9;obtain ⟨Ao,co_,eo⟩:=Kd.R_slice HO.out;subst eo)|((with_reducible refine gate_store (t:=53) (p:=8) (v:= .tmp 51) rfl ?_);refine store_all BK8.out 53 (.tmp 8) (.tmp 51) rfl rfl rfl _ [_] rfl rfl rfl (by kernel_rfl) rfl (by intro q hq;simp only [List.mem_cons,List.not_mem_nil,or_false] at hq;rcases hq with rfl;rfl) ?_;intro w14 hbk hg;have n0_:=am_ (blk_put_other BK5.out hg (by have:=LT5_8.out;omega));have n1_:=am_ (blk_put_other BK7.out hg (by have:=LT7_8.out;omega));have n2_:=am_ (blk_put_other BK9.out hg (by have:=LT8_9.out;omega));have n3_:=am_ (R_put HO.out BK8.out (by decide) hg);have n4_:=am_ (below_put HB.out (below_size HB.out) hg GE8.out);have n5_:=Aside0.mk hbk;clear BK5 BK7 BK8 BK9 HO HB hbk hg;have BK5:=n0_;have BK7:=n1_;have BK9:=n2_;have HO:=n3_;have HB:=n4_;have BK8:=n5_;clear n0_ n1_ n2_ n3_ n4_ n5_))
              go_roundg (l0.length - (i+1))
              case measure=>have:=HM.out;have:=HC.out;omega
              case rel=>exact ⟨i+1,_,_,_,(by have:=HC.out;omega),Nat.le_refl _,(by first|rfl|(rw [ei];done)|(simp [ei];done)|(simp [*];done)),HR2,⟨by have:=HAC.out;(try simp only [List.length_append,List.length_singleton]);omega⟩,⟨Kd.R_mono HO.out (fun _ _=>trivial)⟩,BK5,BK7,BK8,BK9,HB⟩
          · have cl : Op.bytesLess (rd_T84 l0 (i : Int)).f0.toList s1.toList = true := by simpa using cl
            by_cases c2:(rd_T84 l0 (i:Int)).f0.toList=s1.toList
            · have c2b : ((rd_T84 l0 (i : Int)).f0.toList != s1.toList) = false := bne_eq_false_iff_eq.mpr c2
              have c2a:((rd_T84 l0 (i:Int)).f0.toList==s1.toList)=true:=beq_iff_eq.mpr c2
              have HR2:=am_ (show r=acc++effL mk s1 false (l0.drop (i+1)) from by rw [HE.out,if_neg (show¬(false=false∧Op.bytesLess (rd_T84 l0 (i:Int)).f0.toList s1.toList=false) from fun q=>by rw [cl] at q;exact nomatch q.2),if_neg (show¬(false=false∧Op.bytesLess (rd_T84 l0 (i:Int)).f0.toList s1.toList=false) from fun q=>by rw [cl] at q;exact nomatch q.2),if_pos c2];simp only [List.nil_append,List.append_assoc])
              clear HE c2
              go_wp2_with (first|((with_reducible refine gate_dst (N:=12) rfl ?_);refine bx_ (N:=12) (cs:=#[.string ⟨#[]⟩, .string ⟨#[]⟩, .int .i64 0, .int .i64 0, .int .i64 0, .int .i64 0]) (t:=84) ?_;intro gb12 hg w10 hbox hb;have NE5_12:=am_ (show gb5≠gb12 from by have:=blk_lt BK5.out;rw [hg];exact Nat.ne_of_lt this);have LT5_12:=am_ (show gb5<gb12 from by have:=blk_lt BK5.out;rw [hg];exact this);have NE7_12:=am_ (show gb7≠gb12 from by have:=blk_lt BK7.out;rw [hg];exact Nat.ne_of_lt this);have LT7_12:=am_ (show gb7<gb12 from by have:=blk_lt BK7.out;rw [hg];exact this);have NE8_12:=am_ (show gb8≠gb12 from by have:=blk_lt BK8.out;rw [hg];exact Nat.ne_of_lt this);have LT8_12:=am_ (show gb8<gb12 from by have:=blk_lt BK8.out;rw [hg];exact this);have NE9_12:=am_ (show gb9≠gb12 from by have:=blk_lt BK9.out;rw [hg];exact Nat.ne_of_lt this);have LT9_12:=am_ (show gb9<gb12 from by have:=blk_lt BK9.out;rw [hg];exact this);have HOn:=am_ (show Kd.R k84 84 w10 (gb9+1) (fun k=>k<gb12) _ acc from by rw [hg];exact Kd.R_below (eff_old HO.out) hb);clear HO;have HO:=HOn;clear HOn;replace BK5:=am_ (blk_below BK5.out hb);replace BK7:=am_ (blk_below BK7.out hb);replace BK8:=am_ (blk_below BK8.out hb);replace BK9:=am_ (blk_below BK9.out hb);have BK12:=am_ (hbox);have GE12:=am_ ((by rw [hg];exact below_size HB.out:w.heap.size≤gb12));replace HB:=am_ (below_step HB.out hb);have EQ12:=am_ (hg);clear hb hbox hg;obtain ⟨cgb12_0,cgb12_1,cgb12_2,cgb12_3,cgb12_4,cgb12_5⟩:=xz6_ BK12)|((with_reducible refine gate_store (t:=84) (p:=12) (v:= .tmp 31) rfl ?_);refine store_all BK12.out 84 (.tmp 12) (.tmp 31) rfl rfl rfl (.agg #[.string (rd_T84 l0 (i:Int)).f0, .string (rd_T84 l0 (i:Int)).f1, .int .i64 (rd_T84 l0 (i:Int)).f2.f0, .int .i64 (rd_T84 l0 (i:Int)).f2.f1, .int .i64 (rd_T84 l0 (i:Int)).f2.f2, .int .i64 (rd_T84 l0 (i:Int)).f3]) [.string (rd_T84 l0 (i:Int)).f0, .string (rd_T84 l0 (i:Int)).f1, .int .i64 (rd_T84 l0 (i:Int)).f2.f0, .int .i64 (rd_T84 l0 (i:Int)).f2.f1, .int .i64 (rd_T84 l0 (i:Int)).f2.f2, .int .i64 (rd_T84 l0 (i:Int)).f3] rfl rfl rfl (by kernel_rfl) rfl (by intro q hq;simp only [List.mem_cons,List.not_mem_nil,or_false] at hq;rcases hq with rfl|rfl|rfl|rfl|rfl|rfl<;>rfl) ?_;intro w11 hbk hg;clear cgb12_0 cgb12_1 cgb12_2 cgb12_3 cgb12_4 cgb12_5;have HOn:=am_ (eff_put_old HO.out hg);clear HO;have HO:=HOn;clear HOn;replace BK5:=am_ (blk_put_other BK5.out hg (NE5_12.out));replace BK7:=am_ (blk_put_other BK7.out hg (NE7_12.out));replace BK8:=am_ (blk_put_other BK8.out hg (NE8_12.out));replace BK9:=am_ (blk_put_other BK9.out hg (NE9_12.out));replace HB:=am_ (below_put HB.out (below_size HB.out) hg GE12.out);replace BK12:=am_ (hbk);clear hbk hg;obtain ⟨cgb12_0,cgb12_1,cgb12_2,cgb12_3,cgb12_4,cgb12_5⟩:=xz6_ BK12;have cgb5_1:=zz_ BK5 1;have cgb8_0:=zz_ BK8 0;have cgb9_0:=zz_ BK9 0)|((with_reducible refine gate_builtin (b:= .append) (xs:=#[.tmp 48, .tmp 50]) rfl ?_);at_builtin;refine Kd.R_append k84 (w0:=w11) (gb9+1) rfl (.tmp 48) (.tmp 50) 53 84 (.agg #[(.string ⟨#[]⟩),(.string ⟨#[]⟩),(.int .i64 0),(.int .i64 0),(.int .i64 0),(.int .i64 0)]) 64 rfl Try.underlying53 info84 rfl (by decide) (by omega) _ acc (rd_T84 l0 (i:Int)) [.string (rd_T84 l0 (i:Int)).f0, .string (rd_T84 l0 (i:Int)).f1, .int .i64 (rd_T84 l0 (i:Int)).f2.f0, .int .i64 (rd_T84 l0 (i:Int)).f2.f1, .int .i64 (rd_T84 l0 (i:Int)).f2.f2, .int .i64 (rd_T84 l0 (i:Int)).f3] (fun _=>True) (fun _=>False) rfl (by first|(go_simp;done)|(go_simp;rfl)) ?aP (fun _ hk=>hk.elim) ?aF ?aO ?aB ?aS ?aL ?_;(case aP=>exact k84_mkM _ _ _ (rd_T84 l0 (i:Int)));(case aF=>exact fun _ _=>trivial);(case aO=>exact Kd.R_mono HO.out (fun _ _=>trivial));(case aB=>exact Below.refl _ _);(case aS=>exact Nat.succ_le_of_lt (blk_lt BK9.out));(case aL=>have:=HAC.out;have:=HI.out;have:=HL.out;(try simp only [List.length_append,List.length_singleton]);omega);intro v5 w13 ho hb hg hat;have HG8:=Aside0.mk hg;have ne5:some gb5≠_:=Kd.R_ne HO.out BK5.out (by decide);have ne7:some gb7≠_:=Kd.R_ne HO.out BK7.out (by decide);have ne8:some gb8≠_:=Kd.R_ne HO.out BK8.out (by decide);have ne9:some gb9≠_:=Kd.R_ne HO.out BK9.out (by decide);have n0_:=am_ (blk_grown BK5.out hg ne5);have n1_:=am_ (blk_grown BK7.out hg ne7);have n2_:=am_ (blk_grown BK8.out hg ne8);have n3_:=am_ (blk_grown BK9.out hg ne9);have n4_:=Aside0.mk ho;have n5_:=am_ (pw_below_grown HB.out _ (below_size HB.out) hg (fun k e=>by have:=(eff_own HO.out k e).1;have:=GE8.out;have:=LT8_9.out;omega));clear BK5 BK7 BK8 BK9 BK12 HO HB;have BK5:=n0_;have BK7:=n1_;have BK8:=n2_;have BK9:=n3_;have HO:=n4_;have HB:=n5_;clear n0_ n1_ n2_ n3_ n4_ n5_ ho hb hg hat ne5 ne7 ne8 ne9;obtain ⟨Ao,co_,eo⟩:=Kd.R_slice HO.out;subst eo)|((with_reducible refine gate_store (t:=53) (p:=8) (v:= .tmp 51) rfl ?_);refine store_all BK8.out 53 (.tmp 8) (.tmp 51) rfl rfl rfl _ [_] rfl rfl rfl (by kernel_rfl) rfl (by intro q hq;simp only [List.mem_cons,List.not_mem_nil,or_false] at hq;rcases hq with rfl;rfl) ?_;intro w14 hbk hg;have n0_:=am_ (blk_put_other BK5.out hg (by have:=LT5_8.out;omega));have n1_:=am_ (blk_put_other BK7.out hg (by have:=LT7_8.out;omega));have n2_:=am_ (blk_put_other BK9.out hg (by have:=LT8_9.out;omega));have n3_:=am_ (R_put HO.out BK8.out (by decide) hg);have n4_:=am_ (below_put HB.out (below_size HB.out) hg GE8.out);have n5_:=Aside0.mk hbk;clear BK5 BK7 BK8 BK9 HO HB hbk hg;have BK5:=n0_;have BK7:=n1_;have BK9:=n2_;have HO:=n3_;have HB:=n4_;have BK8:=n5_;clear n0_ n1_ n2_ n3_ n4_ n5_))
              go_roundg (l0.length - (i+1))
              case measure=>have:=HM.out;have:=HC.out;omega
              case rel=>exact ⟨i+1,_,_,_,(by have:=HC.out;omega),Nat.le_refl _,(by first|rfl|(rw [ei];done)|(simp [ei];done)|(simp [*];done)),HR2,⟨by have:=HAC.out;(try simp only [List.length_append,List.length_singleton]);omega⟩,⟨Kd.R_mono HO.out (fun _ _=>trivial)⟩,BK5,BK7,BK8,BK9,HB⟩
            · have c2b : ((rd_T84 l0 (i : Int)).f0.toList != s1.toList) = true := bne_iff_ne.mpr c2
              have c2a:((rd_T84 l0 (i:Int)).f0.toList==s1.toList)=false:=beq_eq_false_iff_ne.mpr c2
              have HR2:=am_ (show r=(acc++ [(rd_T84 l0 (i:Int))])++effL mk s1 false (l0.drop (i+1)) from by rw [HE.out,if_neg (show¬(false=false∧Op.bytesLess (rd_T84 l0 (i:Int)).f0.toList s1.toList=false) from fun q=>by rw [cl] at q;exact nomatch q.2),if_neg (show¬(false=false∧Op.bytesLess (rd_T84 l0 (i:Int)).f0.toList s1.toList=false) from fun q=>by rw [cl] at q;exact nomatch q.2),if_neg c2];simp only [List.nil_append,List.append_assoc])
              clear HE c2
              go_wp2_with (first|((with_reducible refine gate_dst (N:=12) rfl ?_);refine bx_ (N:=12) (cs:=#[.string ⟨#[]⟩, .string ⟨#[]⟩, .int .i64 0, .int .i64 0, .int .i64 0, .int .i64 0]) (t:=84) ?_;intro gb12 hg w10 hbox hb;have NE5_12:=am_ (show gb5≠gb12 from by have:=blk_lt BK5.out;rw [hg];exact Nat.ne_of_lt this);have LT5_12:=am_ (show gb5<gb12 from by have:=blk_lt BK5.out;rw [hg];exact this);have NE7_12:=am_ (show gb7≠gb12 from by have:=blk_lt BK7.out;rw [hg];exact Nat.ne_of_lt this);have LT7_12:=am_ (show gb7<gb12 from by have:=blk_lt BK7.out;rw [hg];exact this);have NE8_12:=am_ (show gb8≠gb12 from by have:=blk_lt BK8.out;rw [hg];exact Nat.ne_of_lt this);have LT8_12:=am_ (show gb8<gb12 from by have:=blk_lt BK8.out;rw [hg];exact this);have NE9_12:=am_ (show gb9≠gb12 from by have:=blk_lt BK9.out;rw [hg];exact Nat.ne_of_lt this);have LT9_12:=am_ (show gb9<gb12 from by have:=blk_lt BK9.out;rw [hg];exact this);have HOn:=am_ (show Kd.R k84 84 w10 (gb9+1) (fun k=>k<gb12) _ acc from by rw [hg];exact Kd.R_below (eff_old HO.out) hb);clear HO;have HO:=HOn;clear HOn;replace BK5:=am_ (blk_below BK5.out hb);replace BK7:=am_ (blk_below BK7.out hb);replace BK8:=am_ (blk_below BK8.out hb);replace BK9:=am_ (blk_below BK9.out hb);have BK12:=am_ (hbox);have GE12:=am_ ((by rw [hg];exact below_size HB.out:w.heap.size≤gb12));replace HB:=am_ (below_step HB.out hb);have EQ12:=am_ (hg);clear hb hbox hg;obtain ⟨cgb12_0,cgb12_1,cgb12_2,cgb12_3,cgb12_4,cgb12_5⟩:=xz6_ BK12)|((with_reducible refine gate_store (t:=84) (p:=12) (v:= .tmp 31) rfl ?_);refine store_all BK12.out 84 (.tmp 12) (.tmp 31) rfl rfl rfl (.agg #[.string (rd_T84 l0 (i:Int)).f0, .string (rd_T84 l0 (i:Int)).f1, .int .i64 (rd_T84 l0 (i:Int)).f2.f0, .int .i64 (rd_T84 l0 (i:Int)).f2.f1, .int .i64 (rd_T84 l0 (i:Int)).f2.f2, .int .i64 (rd_T84 l0 (i:Int)).f3]) [.string (rd_T84 l0 (i:Int)).f0, .string (rd_T84 l0 (i:Int)).f1, .int .i64 (rd_T84 l0 (i:Int)).f2.f0, .int .i64 (rd_T84 l0 (i:Int)).f2.f1, .int .i64 (rd_T84 l0 (i:Int)).f2.f2, .int .i64 (rd_T84 l0 (i:Int)).f3] rfl rfl rfl (by kernel_rfl) rfl (by intro q hq;simp only [List.mem_cons,List.not_mem_nil,or_false] at hq;rcases hq with rfl|rfl|rfl|rfl|rfl|rfl<;>rfl) ?_;intro w11 hbk hg;clear cgb12_0 cgb12_1 cgb12_2 cgb12_3 cgb12_4 cgb12_5;have HOn:=am_ (eff_put_old HO.out hg);clear HO;have HO:=HOn;clear HOn;replace BK5:=am_ (blk_put_other BK5.out hg (NE5_12.out));replace BK7:=am_ (blk_put_other BK7.out hg (NE7_12.out));replace BK8:=am_ (blk_put_other BK8.out hg (NE8_12.out));replace BK9:=am_ (blk_put_other BK9.out hg (NE9_12.out));replace HB:=am_ (below_put HB.out (below_size HB.out) hg GE12.out);replace BK12:=am_ (hbk);clear hbk hg;obtain ⟨cgb12_0,cgb12_1,cgb12_2,cgb12_3,cgb12_4,cgb12_5⟩:=xz6_ BK12;have cgb5_1:=zz_ BK5 1;have cgb8_0:=zz_ BK8 0;have cgb9_0:=zz_ BK9 0)|((with_reducible refine gate_builtin (b:= .append) (xs:=#[.tmp 48, .tmp 50]) rfl ?_);at_builtin;refine Kd.R_append k84 (w0:=w11) (gb9+1) rfl (.tmp 48) (.tmp 50) 53 84 (.agg #[(.string ⟨#[]⟩),(.string ⟨#[]⟩),(.int .i64 0),(.int .i64 0),(.int .i64 0),(.int .i64 0)]) 64 rfl Try.underlying53 info84 rfl (by decide) (by omega) _ acc (rd_T84 l0 (i:Int)) [.string (rd_T84 l0 (i:Int)).f0, .string (rd_T84 l0 (i:Int)).f1, .int .i64 (rd_T84 l0 (i:Int)).f2.f0, .int .i64 (rd_T84 l0 (i:Int)).f2.f1, .int .i64 (rd_T84 l0 (i:Int)).f2.f2, .int .i64 (rd_T84 l0 (i:Int)).f3] (fun _=>True) (fun _=>False) rfl (by first|(go_simp;done)|(go_simp;rfl)) ?aP (fun _ hk=>hk.elim) ?aF ?aO ?aB ?aS ?aL ?_;(case aP=>exact k84_mkM _ _ _ (rd_T84 l0 (i:Int)));(case aF=>exact fun _ _=>trivial);(case aO=>exact Kd.R_mono HO.out (fun _ _=>trivial));(case aB=>exact Below.refl _ _);(case aS=>exact Nat.succ_le_of_lt (blk_lt BK9.out));(case aL=>have:=HAC.out;have:=HI.out;have:=HL.out;(try simp only [List.length_append,List.length_singleton]);omega);intro v5 w13 ho hb hg hat;have HG8:=Aside0.mk hg;have ne5:some gb5≠_:=Kd.R_ne HO.out BK5.out (by decide);have ne7:some gb7≠_:=Kd.R_ne HO.out BK7.out (by decide);have ne8:some gb8≠_:=Kd.R_ne HO.out BK8.out (by decide);have ne9:some gb9≠_:=Kd.R_ne HO.out BK9.out (by decide);have n0_:=am_ (blk_grown BK5.out hg ne5);have n1_:=am_ (blk_grown BK7.out hg ne7);have n2_:=am_ (blk_grown BK8.out hg ne8);have n3_:=am_ (blk_grown BK9.out hg ne9);have n4_:=Aside0.mk ho;have n5_:=am_ (pw_below_grown HB.out _ (below_size HB.out) hg (fun k e=>by have:=(eff_own HO.out k e).1;have:=GE8.out;have:=LT8_9.out;omega));clear BK5 BK7 BK8 BK9 BK12 HO HB;have BK5:=n0_;have BK7:=n1_;have BK8:=n2_;have BK9:=n3_;have HO:=n4_;have HB:=n5_;clear n0_ n1_ n2_ n3_ n4_ n5_ ho hb hg hat ne5 ne7 ne8 ne9;obtain ⟨Ao,co_,eo⟩:=Kd.R_slice HO.out;subst eo)|((with_reducible refine gate_store (t:=53) (p:=8) (v:= .tmp 51) rfl ?_);refine store_all BK8.out 53 (.tmp 8) (.tmp 51) rfl rfl rfl _ [_] rfl rfl rfl (by kernel_rfl) rfl (by intro q hq;simp only [List.mem_cons,List.not_mem_nil,or_false] at hq;rcases hq with rfl;rfl) ?_;intro w14 hbk hg;have n0_:=am_ (blk_put_other BK5.out hg (by have:=LT5_8.out;omega));have n1_:=am_ (blk_put_other BK7.out hg (by have:=LT7_8.out;omega));have n2_:=am_ (blk_put_other BK9.out hg (by have:=LT8_9.out;omega));have n3_:=am_ (R_put HO.out BK8.out (by decide) hg);have n4_:=am_ (below_put HB.out (below_size HB.out) hg GE8.out);have n5_:=Aside0.mk hbk;clear BK5 BK7 BK8 BK9 HO HB hbk hg;have BK5:=n0_;have BK7:=n1_;have BK9:=n2_;have HO:=n3_;have HB:=n4_;have BK8:=n5_;clear n0_ n1_ n2_ n3_ n4_ n5_))
              go_roundg (l0.length - (i+1))
              case measure=>have:=HM.out;have:=HC.out;omega
              case rel=>exact ⟨i+1,_,_,_,(by have:=HC.out;omega),Nat.le_refl _,(by first|rfl|(rw [ei];done)|(simp [ei];done)|(simp [*];done)),HR2,⟨by have:=HAC.out;(try simp only [List.length_append,List.length_singleton]);omega⟩,⟨Kd.R_mono HO.out (fun _ _=>trivial)⟩,BK5,BK7,BK8,BK9,HB⟩
      · have c1b : decide ((i : Int) < (l0.length : Int)) = false := decide_eq_false (by omega)
        have c1c:decide (i<l0.length)=false:=decide_eq_false c1
        have c1d:(i<l0.length)=False:=eq_false c1
        have hh:=HE.out
        rw [List.drop_of_length_le (by omega)] at hh
        unfold effL at hh
        have HE:=Aside0.mk hh
        clear hh c1
        have cgb8_0:=zz_ BK8 0
        cases inb with
        | true =>
          have HR2:=am_ (show r=acc from by rw [HE.out,if_pos rfl,List.append_nil]);have cgb9_0:=zz_ BK9 0;go_wp2_with fail
          have hlen:acc.length<2199023255552:=by have:=HAC.out;have:=HI.out;have:=HL.out;(try simp only [List.length_append,List.length_singleton]);omega
          have hcf:slices_Clone_Mark.f acc=some acc:=by unfold slices_Clone_Mark.f;exact if_pos hlen
          have hcl:=slices_Clone_Mark.calls Au cu acc acc _ (Kd.R_reads' HO.out).2.2 (Kd.R_reads' HO.out).2.1 hcf;(try simp only [List.length_append,List.length_cons,List.length_nil,Nat.zero_add] at hcl);refine hcl.mono ?_;rintro e w15 ⟨v0_,rfl,ho,hb⟩;have HOz:=am_ (Kd.R_lower ho (below_size HB.out));have HBz:=am_ (below_step HB.out hb);clear ho hb hcl hcf hlen;go_wp2
          go_ret
          exact ⟨_,rfl,by rw [HR2.out];exact HOz.out,HBz.out⟩
        | false =>
          have HR2:=am_ (show r=acc++ [mk] from by rw [HE.out,if_neg (by simp)]);have cgb9_0:=zz_ BK9 0;go_wp2_with fail
          refine (effPut_calls _ w.heap.size gb8 gb5 gb7 gb9 (gb9+1) l.length A c _ false acc s0 s3 s4 s5 s1 s2 r2 r3 r4 r5 r6 r7 r8 r9 r10 r11 r12 r13 b14 BK8.out BK5.out BK7.out BK9.out (by have:=GE8.out;omega) LT8_9.out (Nat.lt_succ_self _) (Nat.succ_le_of_lt (blk_lt BK9.out)) HO.out (by have:=HAC.out;have:=HI.out;have:=HL.out;omega)).mono ?_;rintro e w12 ⟨rfl,v2,hbo,hbi,ho,hk,hb⟩;rw [←HMK.out] at ho;have n3_:=am_ (HB.out.trans hb);clear cgb8_0 cgb9_0 BK8 BK9 HB HO;have HB:=n3_;have BK8:=Aside0.mk hbo;have HO:=Aside0.mk ho;clear n3_ hbo hbi ho hk hb;obtain ⟨Ap_,cp_,ep_⟩:=Kd.R_slice HO.out;subst ep_;simp only [List.length_append,List.length_cons,List.length_nil,Nat.zero_add] at BK8;have cgb8_0:=zz_ BK8 0;go_wp2_with fail
          have hlen:(acc++ [mk]).length<2199023255552:=by have:=HAC.out;have:=HI.out;have:=HL.out;(try simp only [List.length_append,List.length_singleton]);omega
          have hcf:slices_Clone_Mark.f (acc++ [mk])=some (acc++ [mk]):=by unfold slices_Clone_Mark.f;exact if_pos hlen
          have hcl:=slices_Clone_Mark.calls Ap_ cp_ (acc++ [mk]) (acc++ [mk]) _ (Kd.R_reads' HO.out).2.2 (Kd.R_reads' HO.out).2.1 hcf;(try simp only [List.length_append,List.length_cons,List.length_nil,Nat.zero_add] at hcl);refine hcl.mono ?_;rintro e w15 ⟨v0_,rfl,ho,hb⟩;have HOz:=am_ (Kd.R_lower ho (below_size HB.out));have HBz:=am_ (below_step HB.out hb);clear ho hb hcl hcf hlen;go_wp2
          go_ret
          exact ⟨_,rfl,by rw [HR2.out];exact HOz.out,HBz.out⟩)


def slices_Clone_Step.f (l0:List (S76)):Option (List (S76)):=if l0.length<2199023255552 then some l0 else none
set_option maxHeartbeats 8000000 in
set_option maxRecDepth 100000 in
theorem slices_Clone_Step.calls (A0:Option Addr) (c0:Nat) (l0:List (S76)) (r:List (S76)) (w:World) (hr0:Kd.C k76 w A0 l0.length l0) (hc0:l0.length≤c0) (h:slices_Clone_Step.f l0=some r):
    Calls Try.prog 143 #[.slice A0 l0.length c0] w fun e w'=> ∃v0_:Value,e= .returned (v0_)∧Kd.R k76 76 w' w.heap.size (fun _=>True) v0_ r∧Below w.heap.size w w':=by
  have hlim:l0.length<2199023255552∧l0=r:=by
    unfold slices_Clone_Step.f at h
    split at h
    · exact ⟨by assumption,Option.some.inj h⟩
    cases h
  obtain ⟨hlim,rfl⟩:=hlim;have hnil:=fun (W:World) (n c:Nat)=>Lib.run_eql_slice_nil (P:=Try.prog) W 49 76 A0 n c 0 0 Try.underlying49
  cases A0 with
  | none =>
    have hl:l0=[]:=by
      cases l0 with
      |nil=>rfl
      |cons x l=>exact absurd (hr0.2.2 (by simp)) (by simp)
    subst hl;clear hr0;go_enter Try.func143,Try.ntmps143;go_wp2
    go_ret
    exact ⟨_,rfl,Kd.R_nil _ _ _ _ _,Below.refl _ _⟩
  | some ad =>
    have HR0:=Aside0.mk hr0;have HC0:=Aside0.mk hc0;have LM:=Aside0.mk hlim;clear hr0 hc0 hlim h;have HB:=am_ (Below.refl w.heap.size w);go_enter Try.func143,Try.ntmps143;go_wp2_with (first|((with_reducible refine gate_dst (N:=5) rfl ?_);refine Kd.R_lit k76 _ 76 ?hg (N:=5) ?hd (xs:=([]:List (S76))) (inner:=[]) (ok:=fun _=>True) (okp:=fun _=>True) ?hr ?hp (fun _ hk=>hk) trivial (Below.refl _ _) (Nat.le_refl _) (by simp) ?_;(case hd=>rfl);(case hg=>rfl);(case hr=>first|(go_simp;done)|(go_simp;rfl));(case hp=>exact (Reps.none _ _));intro v2 w3 ho4 hb hg_ hnew_;clear hg_ hnew_;have HO3:=am_ (Kd.R_lower ho4 (below_size HB.out));replace HB:=am_ (below_step HB.out hb);clear hb ho4)|((with_reducible refine gate_builtin (b:= .append) (xs:=#[.tmp 5, .tmp 6]) rfl ?_);at_builtin;refine Kd.R_append_rows k76 (w0:=w) w.heap.size rfl (.tmp 5) (.tmp 6) 49 76 (.agg #[(.int .i64 0),(.string ⟨#[]⟩),(.string ⟨#[]⟩),(.int .i64 0),(.int .i64 0),(.int .i64 0)]) 64 rfl Try.underlying49 info76 rfl (by decide) (by omega) v2 [] l0 _ _ _ (fun _=>True) (fun _=>False) rfl rfl ?aO ?aR (fun _ _ h=>h) (fun _ h=>h.elim) ?aF ?aB ?aS ?aL ?_;(case aR=>exact (Kd.C_below HR0.out HB.out));(case aB=>exact HB.out);(case aF=>exact (fun _ _=>trivial));(case aO=>exact HO3.out);(case aS=>exact (below_size HB.out));(case aL=>have:=LM.out;simp;omega);intro v5 w5 ho hb hg hat;have n0_:=am_ (hb);have n1_:=am_ (ho);clear HB;clear HO3;have HB:=n0_;have HO6:=n1_;clear n0_ n1_;clear ho hb hg hat))
    go_ret
    exact ⟨_,rfl,HO6.out,HB.out⟩


def apply_going_behind.f (l0_0:List (S84)) (l0_1:List (S76)) (a0_2:Int) (l1:List (S79)) (a2_0:Int) (a2_1:ByteArray) (a2_2:ByteArray) (a2_3:Int) (a2_4:Int) (a2_5:Int):Option ((List (S84))×(List (S76))×Int):=(effect_Marks.f l0_0 l1 a2_0 a2_1 a2_2 a2_3 a2_4 a2_5).bind fun t4=>((slices_Clone_Step.f l0_1).bind fun t7=>(if (wrap64 (a0_2+1))≥(t7.length:Int) then (some (t4,([]:List (S76)),0)) else (some (t4,t7,wrap64 (a0_2+1)))))
def apply_going_behind.T1:Bool×List (List Nat×List Nat):=(true,[([],[]),([0],[0]),([1],[1]),([],[]),([],[]),([2,3,4],[2,3,4]),([],[]),([6],[6]),([7],[7]),([8,5],[8]),([],[]),([10],[10]),([11],[11]),([12],[12]),([5,9,13],[5,9,13]),([],[]),([15,14,9,0,1,2,3,4,5,6,7,8,9,10,11,12,13,14,15],[14,15])])
def apply_going_behind.B1:List Nat:=[0,1,3,0,0,31,0,64,192,511,0,1024,3072,7168,16383,0,65535]
theorem apply_going_behind.tab1:rtab .any (opsOf Try.f106 1)=apply_going_behind.T1:=by kernel_rfl
theorem apply_going_behind.bits1:waitsOk apply_going_behind.T1.2 apply_going_behind.B1=true:=by kernel_rfl
set_option maxHeartbeats 8000000 in
set_option maxRecDepth 100000 in
theorem apply_going_behind.calls (A0_0:Option Addr) (c0_0:Nat) (l0_0:List (S84)) (A0_1:Option Addr) (c0_1:Nat) (l0_1:List (S76)) (a0_2:Int) (A1:Option Addr) (c1:Nat) (l1:List (S79)) (a2_0:Int) (a2_1:ByteArray) (a2_2:ByteArray) (a2_3:Int) (a2_4:Int) (a2_5:Int) (r1:List (S84)) (r2:List (S76)) (r3:Int) (w:World) (hr0_0:Kd.C k84 w A0_0 l0_0.length l0_0) (hc0_0:l0_0.length≤c0_0) (hr0_1:Kd.C k76 w A0_1 l0_1.length l0_1) (hc0_1:l0_1.length≤c0_1) (hr1:Kd.C k79 w A1 l1.length l1) (hc1:l1.length≤c1) (h:apply_going_behind.f l0_0 l0_1 a0_2 l1 a2_0 a2_1 a2_2 a2_3 a2_4 a2_5=some (r1,r2,r3)):
  Calls Try.prog 106 #[.agg #[.slice A0_0 l0_0.length c0_0, .slice A0_1 l0_1.length c0_1, .int .i64 a0_2], .slice A1 l1.length c1, .agg #[.int .i64 a2_0, .string a2_1, .string a2_2, .int .i64 a2_3, .int .i64 a2_4, .int .i64 a2_5]] w fun e w'=> ∃v0_ v1_:Value,e= .returned (.agg #[v0_,v1_, .int .i64 r3])∧Kd.R k84 84 w' w.heap.size (fun _=>True) v0_ r1∧Kd.R k76 76 w' w.heap.size (fun _=>True) v1_ r2∧Below w.heap.size w w':=by
 have hu150:=Try.underlying150;have hu76:=Try.underlying76;have hu63:=Try.underlying63;have HR0_0:=Aside0.mk hr0_0;have HC0_0:=Aside0.mk hc0_0;clear hr0_0 hc0_0;have HR0_1:=Aside0.mk hr0_1;have HC0_1:=Aside0.mk hc0_1;clear hr0_1 hc0_1;have HR1:=Aside0.mk hr1;have HC1:=Aside0.mk hc1;clear hr1 hc1;have HB:=am_ (Below.refl w.heap.size w);have H:((effect_Marks.f l0_0 l1 a2_0 a2_1 a2_2 a2_3 a2_4 a2_5).bind fun t4=>((slices_Clone_Step.f l0_1).bind fun t7=>(if (wrap64 (a0_2+1))≥(t7.length:Int) then (some (t4,([]:List (S76)),0)) else (some (t4,t7,wrap64 (a0_2+1))))))=some (r1,r2,r3):=h;clear h;replace H:=zbd_ H;obtain ⟨t4,A4,H⟩:=H;try dsimp only at H
 replace H:=zbd_ H;obtain ⟨t7,A5,H⟩:=H;try dsimp only at H
 have HE:=Aside0.mk H;clear H;go_enter Try.func106,Try.ntmps106;try go_wp2_with (first|((with_reducible refine gate_dst (N:=3) rfl ?_);refine bx_ (N:=3) (cs:=#[.slice A0_0 l0_0.length c0_0, .slice A0_1 l0_1.length c0_1, .int .i64 a0_2]) (t:=150) ?_;intro gb1 hg w29 hbox hb;have BK1:=am_ (hbox);have GE1:=am_ ((zg0_ HB hg:w.heap.size≤gb1));replace HB:=am_ (below_step (zl0_ HB) hb);clear hb hbox hg)|((with_reducible refine gate_dst (N:=5) rfl ?_);refine bx_ (N:=5) (cs:=#[.int .i64 a2_0, .string a2_1, .string a2_2, .int .i64 a2_3, .int .i64 a2_4, .int .i64 a2_5]) (t:=76) ?_;intro gb2 hg w30 hbox hb;have BK2:=am_ (hbox);have GE2:=am_ ((zg1_ HB GE1 hg:w.heap.size≤gb2));replace HB:=am_ (below_step (zl1_ HB GE1) hb);have NB1_2:=am_ ((zn_ BK1 hg:gb1≠gb2));have NB2_1:=am_ ((zm_ BK1 hg:gb2≠gb1));replace BK1:=bb_ BK1 hb;clear hb hbox hg)|((with_reducible refine gate_dst (N:=6) rfl ?_);refine bx_ (N:=6) (cs:=#[.slice none 0 0, .slice none 0 0, .int .i64 0]) (t:=63) ?_;intro gb3 hg w31 hbox hb;have BK3:=am_ (hbox);have GE3:=am_ ((zg2_ HB GE1 GE2 hg:w.heap.size≤gb3));replace HB:=am_ (below_step (zl2_ HB GE1 GE2) hb);have NB1_3:=am_ ((zn_ BK1 hg:gb1≠gb3));have NB3_1:=am_ ((zm_ BK1 hg:gb3≠gb1));replace BK1:=bb_ BK1 hb;have NB2_3:=am_ ((zn_ BK2 hg:gb2≠gb3));have NB3_2:=am_ ((zm_ BK2 hg:gb3≠gb2));replace BK2:=bb_ BK2 hb;clear hb hbox hg))
 replace BK1:=am_ (blk_drew BK1.out);replace BK2:=am_ (blk_drew BK2.out);replace BK3:=am_ (blk_drew BK3.out);replace HB:=am_ (below_drew1 HB.out);refine start_ (n:=17) (S:=fun w'=>w'.cell? ⟨gb1,0,none⟩=some (.slice A0_0 l0_0.length c0_0)∧w'.cell? ⟨gb1,1,none⟩=some (.slice A0_1 l0_1.length c0_1)∧w'.cell? ⟨gb1,2,none⟩=some (.int .i64 a0_2)∧w'.cell? ⟨gb2,0,none⟩=some (.int .i64 a2_0)∧w'.cell? ⟨gb2,1,none⟩=some (.string a2_1)∧w'.cell? ⟨gb2,2,none⟩=some (.string a2_2)∧w'.cell? ⟨gb2,3,none⟩=some (.int .i64 a2_3)∧w'.cell? ⟨gb2,4,none⟩=some (.int .i64 a2_4)∧w'.cell? ⟨gb2,5,none⟩=some (.int .i64 a2_5)) (ds:=[]) (bt_ 17 0) (by kernel_rfl) rfl rfl ⟨(blk_cell BK1.out 0).trans rfl,(blk_cell BK1.out 1).trans rfl,(blk_cell BK1.out 2).trans rfl,(blk_cell BK2.out 0).trans rfl,(blk_cell BK2.out 1).trans rfl,(blk_cell BK2.out 2).trans rfl,(blk_cell BK2.out 3).trans rfl,(blk_cell BK2.out 4).trans rfl,(blk_cell BK2.out 5).trans rfl⟩ (fun hHeld=> ?_);refine with_tabW apply_going_behind.tab1 apply_going_behind.bits1 (fun HT_ HW_=> ?_);generalize w31.drew=w32 at BK1 BK2 BK3 HB hHeld ⊢;refine ru_ 0 HT_ ?_;refine ru_ 1 HT_ ?_;refine ru_ 3 HT_ ?_;refine ru_ 6 HT_ ?_;refine ru_ 7 HT_ ?_;refine ru_ 10 HT_ ?_;refine ru_ 11 HT_ ?_;refine rk_ 2 HT_ HW_ hHeld ?_;refine rk_ 4 HT_ HW_ hHeld ?_;refine rk_ 8 HT_ HW_ hHeld ?_;refine rk_ 12 HT_ HW_ hHeld ?_;refine ru_ 13 HT_ ?_
 refine join_ (σ:=Value×Value×Nat) 1 (bt_ 17 65535) (fun s_=> [(13,s_.1),(17,s_.2.1),(7, .pointer (some ⟨s_.2.2,0,none⟩)),(22, .agg #[s_.1,s_.2.1, .int .i64 (wrap64 (a0_2+1))])]) (fun s_ w'=>(w'.cell? ⟨gb1,0,none⟩=some (.slice A0_0 l0_0.length c0_0)∧w'.cell? ⟨gb1,1,none⟩=some (.slice A0_1 l0_1.length c0_1)∧w'.cell? ⟨gb1,2,none⟩=some (.int .i64 a0_2)∧w'.cell? ⟨gb2,0,none⟩=some (.int .i64 a2_0)∧w'.cell? ⟨gb2,1,none⟩=some (.string a2_1)∧w'.cell? ⟨gb2,2,none⟩=some (.string a2_2)∧w'.cell? ⟨gb2,3,none⟩=some (.int .i64 a2_3)∧w'.cell? ⟨gb2,4,none⟩=some (.int .i64 a2_4)∧w'.cell? ⟨gb2,5,none⟩=some (.int .i64 a2_5))∧(Kd.R k84 84 w' w.heap.size (fun _=>True) s_.1 t4)∧(Kd.R k76 76 w' w.heap.size (fun k_=>k_≠gb2) s_.2.1 t7)∧(w'.heap[gb1]?=some (.cells #[.slice A0_0 l0_0.length c0_0, .slice A0_1 l0_1.length c0_1, .int .i64 a0_2] 150 (0,0)))∧(w'.heap[s_.2.2]?=some (.cells #[.slice none 0 0, .slice none 0 0, .int .i64 0] 63 (0,0)))∧(w'.heap[gb2]?=some (.cells #[.int .i64 a2_0, .string a2_1, .string a2_2, .int .i64 a2_3, .int .i64 a2_4, .int .i64 a2_5] 76 (0,0)))∧(w'.heap[gb3]?=some (.cells #[.slice none 0 0, .slice none 0 0, .int .i64 0] 63 (0,0)))∧(w.heap.size≤s_.2.2)∧(w.heap.size≤s_.2.2)∧(gb1≠s_.2.2)∧(s_.2.2≠gb1)∧(gb2≠s_.2.2)∧(s_.2.2≠gb2)∧(gb3≠s_.2.2)∧(s_.2.2≠gb3)∧(Below w.heap.size w w')) ?_ ?_;rotate_left
 ·intro hCont;refine two_ (i:=5) (j:=15) (Ni:=some 13) (Nj:=some 7) (bt_ 17 15871) (bt_ 17 48607) rfl rfl rfl rfl (two_of HT_.out (by kernel_rfl)) (by decide) (by decide) (fun K hK=> ?_) (fun K hK=> ?_);rotate_left
  ·skip
   refine box_step ?hg (N:=7) ?hd (cs:=#[.slice none 0 0, .slice none 0 0, .int .i64 0]) (t:=63) ?hr ?_;(case hd=>rfl);(case hg=>rfl);(case hr=>first|(go_simp;done)|(go_simp;rfl));intro gb10 hg w33 hbox hb;have BK10:=am_ (hbox);have GW10:=am_ ((zg3_ HB GE1 GE2 GE3 hg:w.heap.size≤gb10));have GE10:=am_ ((zg3_ HB GE1 GE2 GE3 hg:w.heap.size≤gb10));replace HB:=am_ (below_step (zl3_ HB GE1 GE2 GE3) hb);have NB1_10:=am_ ((zn_ BK1 hg:gb1≠gb10));have NB10_1:=am_ ((zm_ BK1 hg:gb10≠gb1));replace BK1:=bb_ BK1 hb;have NB2_10:=am_ ((zn_ BK2 hg:gb2≠gb10));have NB10_2:=am_ ((zm_ BK2 hg:gb10≠gb2));replace BK2:=bb_ BK2 hb;have NB3_10:=am_ ((zn_ BK3 hg:gb3≠gb10));have NB10_3:=am_ ((zm_ BK3 hg:gb10≠gb3));replace BK3:=bb_ BK3 hb;clear hb hbox hg;refine hK.out _ _ ⟨(blk_cell BK1.out 0).trans rfl,(blk_cell BK1.out 1).trans rfl,(blk_cell BK1.out 2).trans rfl,(blk_cell BK2.out 0).trans rfl,(blk_cell BK2.out 1).trans rfl,(blk_cell BK2.out 2).trans rfl,(blk_cell BK2.out 3).trans rfl,(blk_cell BK2.out 4).trans rfl,(blk_cell BK2.out 5).trans rfl⟩ (fun hHeld=> ?_);clear hK K;refine no_ (N:=some 7) ?_;refine on_ (i:=5) (N:=some 13) (bt_ 17 48639) HT_ (fun K hK=> ?_);refine gs_ Try.func142 #[.slice A0_0 l0_0.length c0_0, .slice A1 l1.length c1, .agg #[.int .i64 a2_0, .string a2_1, .string a2_2, .int .i64 a2_3, .int .i64 a2_4, .int .i64 a2_5]] ?_
   with_reducible refine (effect_Marks.calls _ _ l0_0 _ _ l1 a2_0 a2_1 a2_2 a2_3 a2_4 a2_5 t4 _ ?side1 ?side2 ?side3 ?side4 A4.out).mono ?_
   (case side1=>exact zc_ (Kd.C_below HR0_0.out HB.out));(case side2=>exact HC0_0.out);(case side3=>exact zc_ (Kd.C_below HR1.out HB.out));(case side4=>exact HC1.out);rintro e w34 ⟨v5,rfl,ho0,hb⟩;refine ⟨_,rfl, ?_⟩;have HO6:=am_ (Kd.R_lower ho0 (below_size (zl4_ HB GE1 GE2 GE3 GE10)));replace BK1:=bb_ BK1 hb;replace BK2:=bb_ BK2 hb;replace BK3:=bb_ BK3 hb;replace BK10:=bb_ BK10 hb;replace HB:=am_ (below_step (zl4_ HB GE1 GE2 GE3 GE10) hb);(try clear hb);(try clear ho0);refine hK.out _ _ ⟨(blk_cell BK1.out 0).trans rfl,(blk_cell BK1.out 1).trans rfl,(blk_cell BK1.out 2).trans rfl,(blk_cell BK2.out 0).trans rfl,(blk_cell BK2.out 1).trans rfl,(blk_cell BK2.out 2).trans rfl,(blk_cell BK2.out 3).trans rfl,(blk_cell BK2.out 4).trans rfl,(blk_cell BK2.out 5).trans rfl⟩ (fun hHeld=> ?_);clear hK K;refine no_ (N:=some 13) ?_;refine on_ (i:=9) (N:=some 17) (bt_ 17 49151) HT_ (fun K hK=> ?_);refine gs_ Try.func143 #[.slice A0_1 l0_1.length c0_1] ?_
   with_reducible refine (slices_Clone_Step.calls _ _ l0_1 t7 _ ?side1 ?side2 A5.out).mono ?_
   (case side1=>exact zc_ (Kd.C_below HR0_1.out HB.out));(case side2=>exact HC0_1.out);rintro e w35 ⟨v8,rfl,ho0,hb⟩;refine ⟨_,rfl, ?_⟩;replace HO6:=ob_ HO6 hb;have HO9:=am_ (Kd.R_lower (Kd.R_newB ho0 (g:=gb2) (o:= .cells #[.int .i64 a2_0, .string a2_1, .string a2_2, .int .i64 a2_3, .int .i64 a2_4, .int .i64 a2_5] 76 (0,0)) (zb_ BK2)) (below_size (zl4_ HB GE1 GE2 GE3 GE10)));replace BK1:=bb_ BK1 hb;replace BK2:=bb_ BK2 hb;replace BK3:=bb_ BK3 hb;replace BK10:=bb_ BK10 hb;replace HB:=am_ (below_step (zl4_ HB GE1 GE2 GE3 GE10) hb);(try clear hb);(try clear ho0);obtain ⟨Ao36,co36,eo36⟩:=Kd.R_slice HO9.out;(first|subst eo36|cases eo36);obtain ⟨Ao37,co37,eo37⟩:=Kd.R_slice HO6.out;(first|subst eo37|cases eo37);refine hK.out _ _ ⟨(blk_cell BK1.out 0).trans rfl,(blk_cell BK1.out 1).trans rfl,(blk_cell BK1.out 2).trans rfl,(blk_cell BK2.out 0).trans rfl,(blk_cell BK2.out 1).trans rfl,(blk_cell BK2.out 2).trans rfl,(blk_cell BK2.out 3).trans rfl,(blk_cell BK2.out 4).trans rfl,(blk_cell BK2.out 5).trans rfl⟩ (fun hHeld=> ?_);clear hK K;refine no_ (N:=some 17) ?_;refine ru_ 14 HT_ ?_;exact norm_ (by simp only [putAll,Act.put,List.setIfInBounds_toArray,List.set_cons_zero,List.set_cons_succ]) (hCont (.slice Ao37 t4.length co37, .slice Ao36 t7.length co36,gb10) _ ⟨hHeld,(zr_ HO6),(by refine zt_ ?_;exact Kd.R_mono HO9.out (fun _ hk=>hk.2)),(zb_ BK1),(zb_ BK10),(zb_ BK2),(zb_ BK3),GW10.out,GE10.out,NB1_10.out,NB10_1.out,NB2_10.out,NB10_2.out,NB3_10.out,NB10_3.out,(zl4_ HB GE1 GE2 GE3 GE10)⟩)
  skip
  refine gs_ Try.func142 #[.slice A0_0 l0_0.length c0_0, .slice A1 l1.length c1, .agg #[.int .i64 a2_0, .string a2_1, .string a2_2, .int .i64 a2_3, .int .i64 a2_4, .int .i64 a2_5]] ?_
  with_reducible refine (effect_Marks.calls _ _ l0_0 _ _ l1 a2_0 a2_1 a2_2 a2_3 a2_4 a2_5 t4 _ ?side1 ?side2 ?side3 ?side4 A4.out).mono ?_
  (case side1=>exact zc_ (Kd.C_below HR0_0.out HB.out));(case side2=>exact HC0_0.out);(case side3=>exact zc_ (Kd.C_below HR1.out HB.out));(case side4=>exact HC1.out);rintro e w33 ⟨v5,rfl,ho0,hb⟩;refine ⟨_,rfl, ?_⟩;have HO6:=am_ (Kd.R_lower ho0 (below_size (zl3_ HB GE1 GE2 GE3)));replace BK1:=bb_ BK1 hb;replace BK2:=bb_ BK2 hb;replace BK3:=bb_ BK3 hb;replace HB:=am_ (below_step (zl3_ HB GE1 GE2 GE3) hb);(try clear hb);(try clear ho0);refine hK.out _ _ ⟨(blk_cell BK1.out 0).trans rfl,(blk_cell BK1.out 1).trans rfl,(blk_cell BK1.out 2).trans rfl,(blk_cell BK2.out 0).trans rfl,(blk_cell BK2.out 1).trans rfl,(blk_cell BK2.out 2).trans rfl,(blk_cell BK2.out 3).trans rfl,(blk_cell BK2.out 4).trans rfl,(blk_cell BK2.out 5).trans rfl⟩ (fun hHeld=> ?_);clear hK K;refine no_ (N:=some 13) ?_;refine two_ (i:=9) (j:=15) (Ni:=some 17) (Nj:=some 7) (bt_ 17 16383) (bt_ 17 48639) rfl rfl rfl rfl (two_of HT_.out (by kernel_rfl)) (by decide) (by decide) (fun K hK=> ?_) (fun K hK=> ?_)
  ·skip
   refine gs_ Try.func143 #[.slice A0_1 l0_1.length c0_1] ?_
   with_reducible refine (slices_Clone_Step.calls _ _ l0_1 t7 _ ?side1 ?side2 A5.out).mono ?_
   (case side1=>exact zc_ (Kd.C_below HR0_1.out HB.out));(case side2=>exact HC0_1.out);rintro e w34 ⟨v8,rfl,ho0,hb⟩;refine ⟨_,rfl, ?_⟩;replace HO6:=ob_ HO6 hb;have HO9:=am_ (Kd.R_lower (Kd.R_newB ho0 (g:=gb2) (o:= .cells #[.int .i64 a2_0, .string a2_1, .string a2_2, .int .i64 a2_3, .int .i64 a2_4, .int .i64 a2_5] 76 (0,0)) (zb_ BK2)) (below_size (zl3_ HB GE1 GE2 GE3)));replace BK1:=bb_ BK1 hb;replace BK2:=bb_ BK2 hb;replace BK3:=bb_ BK3 hb;replace HB:=am_ (below_step (zl3_ HB GE1 GE2 GE3) hb);(try clear hb);(try clear ho0);obtain ⟨Ao35,co35,eo35⟩:=Kd.R_slice HO9.out;(first|subst eo35|cases eo35);obtain ⟨Ao36,co36,eo36⟩:=Kd.R_slice HO6.out;(first|subst eo36|cases eo36);refine hK.out _ _ ⟨(blk_cell BK1.out 0).trans rfl,(blk_cell BK1.out 1).trans rfl,(blk_cell BK1.out 2).trans rfl,(blk_cell BK2.out 0).trans rfl,(blk_cell BK2.out 1).trans rfl,(blk_cell BK2.out 2).trans rfl,(blk_cell BK2.out 3).trans rfl,(blk_cell BK2.out 4).trans rfl,(blk_cell BK2.out 5).trans rfl⟩ (fun hHeld=> ?_);clear hK K;refine no_ (N:=some 17) ?_;refine ru_ 14 HT_ ?_;refine on_ (i:=15) (N:=some 7) (bt_ 17 65535) HT_ (fun K hK=> ?_);refine box_step ?hg (N:=7) ?hd (cs:=#[.slice none 0 0, .slice none 0 0, .int .i64 0]) (t:=63) ?hr ?_;(case hd=>rfl);(case hg=>rfl);(case hr=>first|(go_simp;done)|(go_simp;rfl));intro gb10 hg w37 hbox hb;replace HO6:=ob_ HO6 hb;replace HO9:=ob_ HO9 hb;have BK10:=am_ (hbox);have GW10:=am_ ((zg3_ HB GE1 GE2 GE3 hg:w.heap.size≤gb10))
   have GE10:=am_ ((zg3_ HB GE1 GE2 GE3 hg:w.heap.size≤gb10));replace HB:=am_ (below_step (zl3_ HB GE1 GE2 GE3) hb);have NB1_10:=am_ ((zn_ BK1 hg:gb1≠gb10));have NB10_1:=am_ ((zm_ BK1 hg:gb10≠gb1));replace BK1:=bb_ BK1 hb;have NB2_10:=am_ ((zn_ BK2 hg:gb2≠gb10));have NB10_2:=am_ ((zm_ BK2 hg:gb10≠gb2));replace BK2:=bb_ BK2 hb;have NB3_10:=am_ ((zn_ BK3 hg:gb3≠gb10));have NB10_3:=am_ ((zm_ BK3 hg:gb10≠gb3));replace BK3:=bb_ BK3 hb;clear hb hbox hg;refine hK.out _ _ ⟨(blk_cell BK1.out 0).trans rfl,(blk_cell BK1.out 1).trans rfl,(blk_cell BK1.out 2).trans rfl,(blk_cell BK2.out 0).trans rfl,(blk_cell BK2.out 1).trans rfl,(blk_cell BK2.out 2).trans rfl,(blk_cell BK2.out 3).trans rfl,(blk_cell BK2.out 4).trans rfl,(blk_cell BK2.out 5).trans rfl⟩ (fun hHeld=> ?_);clear hK K;refine no_ (N:=some 7) ?_;exact norm_ (by simp only [putAll,Act.put,List.setIfInBounds_toArray,List.set_cons_zero,List.set_cons_succ]) (hCont (.slice Ao36 t4.length co36, .slice Ao35 t7.length co35,gb10) _ ⟨hHeld,(zr_ HO6),(by refine zt_ ?_;exact Kd.R_mono HO9.out (fun _ hk=>hk.2)),(zb_ BK1),(zb_ BK10),(zb_ BK2),(zb_ BK3),GW10.out,GE10.out,NB1_10.out,NB10_1.out,NB2_10.out,NB10_2.out,NB3_10.out,NB10_3.out,(zl4_ HB GE1 GE2 GE3 GE10)⟩)
  skip
  refine box_step ?hg (N:=7) ?hd (cs:=#[.slice none 0 0, .slice none 0 0, .int .i64 0]) (t:=63) ?hr ?_;(case hd=>rfl);(case hg=>rfl);(case hr=>first|(go_simp;done)|(go_simp;rfl));intro gb10 hg w34 hbox hb;replace HO6:=ob_ HO6 hb;have BK10:=am_ (hbox);have GW10:=am_ ((zg3_ HB GE1 GE2 GE3 hg:w.heap.size≤gb10));have GE10:=am_ ((zg3_ HB GE1 GE2 GE3 hg:w.heap.size≤gb10));replace HB:=am_ (below_step (zl3_ HB GE1 GE2 GE3) hb);have NB1_10:=am_ ((zn_ BK1 hg:gb1≠gb10));have NB10_1:=am_ ((zm_ BK1 hg:gb10≠gb1));replace BK1:=bb_ BK1 hb;have NB2_10:=am_ ((zn_ BK2 hg:gb2≠gb10));have NB10_2:=am_ ((zm_ BK2 hg:gb10≠gb2));replace BK2:=bb_ BK2 hb;have NB3_10:=am_ ((zn_ BK3 hg:gb3≠gb10));have NB10_3:=am_ ((zm_ BK3 hg:gb10≠gb3));replace BK3:=bb_ BK3 hb;clear hb hbox hg;refine hK.out _ _ ⟨(blk_cell BK1.out 0).trans rfl,(blk_cell BK1.out 1).trans rfl,(blk_cell BK1.out 2).trans rfl,(blk_cell BK2.out 0).trans rfl,(blk_cell BK2.out 1).trans rfl,(blk_cell BK2.out 2).trans rfl,(blk_cell BK2.out 3).trans rfl,(blk_cell BK2.out 4).trans rfl,(blk_cell BK2.out 5).trans rfl⟩ (fun hHeld=> ?_);clear hK K;refine no_ (N:=some 7) ?_;refine on_ (i:=9) (N:=some 17) (bt_ 17 49151) HT_ (fun K hK=> ?_);refine gs_ Try.func143 #[.slice A0_1 l0_1.length c0_1] ?_
  with_reducible refine (slices_Clone_Step.calls _ _ l0_1 t7 _ ?side1 ?side2 A5.out).mono ?_
  (case side1=>exact zc_ (Kd.C_below HR0_1.out HB.out));(case side2=>exact HC0_1.out);rintro e w35 ⟨v8,rfl,ho0,hb⟩;refine ⟨_,rfl, ?_⟩;replace HO6:=ob_ HO6 hb;have HO9:=am_ (Kd.R_lower (Kd.R_newB ho0 (g:=gb2) (o:= .cells #[.int .i64 a2_0, .string a2_1, .string a2_2, .int .i64 a2_3, .int .i64 a2_4, .int .i64 a2_5] 76 (0,0)) (zb_ BK2)) (below_size (zl4_ HB GE1 GE2 GE3 GE10)));replace BK1:=bb_ BK1 hb;replace BK2:=bb_ BK2 hb;replace BK3:=bb_ BK3 hb;replace BK10:=bb_ BK10 hb;replace HB:=am_ (below_step (zl4_ HB GE1 GE2 GE3 GE10) hb);(try clear hb);(try clear ho0);obtain ⟨Ao36,co36,eo36⟩:=Kd.R_slice HO9.out;(first|subst eo36|cases eo36);obtain ⟨Ao37,co37,eo37⟩:=Kd.R_slice HO6.out;(first|subst eo37|cases eo37);refine hK.out _ _ ⟨(blk_cell BK1.out 0).trans rfl,(blk_cell BK1.out 1).trans rfl,(blk_cell BK1.out 2).trans rfl,(blk_cell BK2.out 0).trans rfl,(blk_cell BK2.out 1).trans rfl,(blk_cell BK2.out 2).trans rfl,(blk_cell BK2.out 3).trans rfl,(blk_cell BK2.out 4).trans rfl,(blk_cell BK2.out 5).trans rfl⟩ (fun hHeld=> ?_);clear hK K;refine no_ (N:=some 17) ?_;refine ru_ 14 HT_ ?_;exact norm_ (by simp only [putAll,Act.put,List.setIfInBounds_toArray,List.set_cons_zero,List.set_cons_succ]) (hCont (.slice Ao37 t4.length co37, .slice Ao36 t7.length co36,gb10) _ ⟨hHeld,(zr_ HO6),(by refine zt_ ?_;exact Kd.R_mono HO9.out (fun _ hk=>hk.2)),(zb_ BK1),(zb_ BK10),(zb_ BK2),(zb_ BK3),GW10.out,GE10.out,NB1_10.out,NB10_1.out,NB2_10.out,NB10_2.out,NB3_10.out,NB10_3.out,(zl4_ HB GE1 GE2 GE3 GE10)⟩)
 rintro ⟨v5,v8,gb10⟩ w38 ⟨hS_,h0_,h1_,h2_,h3_,h4_,h5_,h6_,h7_,h8_,h9_,h10_,h11_,h12_,h13_,h14_⟩;(try dsimp only at h0_ h1_ h2_ h3_ h4_ h5_ h6_ h7_ h8_ h9_ h10_ h11_ h12_ h13_ h14_);have n0_:=am_ h0_;have n1_:=am_ h1_;have n2_:=am_ h2_;have n3_:=am_ h3_;have n4_:=am_ h4_;have n5_:=am_ h5_;have n6_:=am_ h6_;have n7_:=am_ h7_;have n8_:=am_ h8_;have n9_:=am_ h9_;have n10_:=am_ h10_;have n11_:=am_ h11_;have n12_:=am_ h12_;have n13_:=am_ h13_;have n14_:=am_ h14_;clear BK1 BK2 BK3 HB h0_ h1_ h2_ h3_ h4_ h5_ h6_ h7_ h8_ h9_ h10_ h11_ h12_ h13_ h14_;have HO6:=n0_;have HO9:=n1_;have BK1:=n2_;have BK10:=n3_;have BK2:=n4_;have BK3:=n5_;have GW10:=n6_;have GE10:=n7_;have NB1_10:=n8_;have NB10_1:=n9_;have NB2_10:=n10_;have NB10_2:=n11_;have NB3_10:=n12_;have NB10_3:=n13_;have HB:=n14_
 clear n0_ n1_ n2_ n3_ n4_ n5_ n6_ n7_ n8_ n9_ n10_ n11_ n12_ n13_ n14_;have hHeld:w38.cell? ⟨gb1,0,none⟩=some (.slice A0_0 l0_0.length c0_0)∧w38.cell? ⟨gb1,1,none⟩=some (.slice A0_1 l0_1.length c0_1)∧w38.cell? ⟨gb1,2,none⟩=some (.int .i64 a0_2)∧w38.cell? ⟨gb2,0,none⟩=some (.int .i64 a2_0)∧w38.cell? ⟨gb2,1,none⟩=some (.string a2_1)∧w38.cell? ⟨gb2,2,none⟩=some (.string a2_2)∧w38.cell? ⟨gb2,3,none⟩=some (.int .i64 a2_3)∧w38.cell? ⟨gb2,4,none⟩=some (.int .i64 a2_4)∧w38.cell? ⟨gb2,5,none⟩=some (.int .i64 a2_5):=hS_;obtain ⟨Ao39,co39,eo39⟩:=Kd.R_slice HO9.out;(first|subst eo39|cases eo39);obtain ⟨Ao40,co40,eo40⟩:=Kd.R_slice HO6.out;(first|subst eo40|cases eo40);refine norm_ (a':= ?_) ?_ ?_;rotate_left
 ·simp only [putAll,Act.put,List.setIfInBounds_toArray,List.set_cons_zero,List.set_cons_succ]
  rfl
 refine on_ (i:=16) (N:=none) (bt_ 17 131071) HT_ (fun K hK=> ?_);have hs41:w38.cell? ⟨gb10,0,none⟩=some (.slice none 0 0):=zz_ BK10 0;have hfs41:=blk_frozen BK10.out 0;have hns41_0:=NB1_10.out;have hns41_1:=NB2_10.out;have hns41_2:=NB3_10.out;have hms41_0:=NB10_1.out;have hms41_1:=NB10_2.out;have hms41_2:=NB10_3.out;have hs42:w38.cell? ⟨gb10,1,none⟩=some (.slice none 0 0):=zz_ BK10 1;have hfs42:=blk_frozen BK10.out 1;have hns42_0:=NB1_10.out;have hns42_1:=NB2_10.out;have hns42_2:=NB3_10.out;have hms42_0:=NB10_1.out;have hms42_1:=NB10_2.out;have hms42_2:=NB10_3.out;have hs43:w38.cell? ⟨gb10,2,none⟩=some (.int .i64 0):=zz_ BK10 2;have hfs43:=blk_frozen BK10.out 2;have hns43_0:=NB1_10.out;have hns43_1:=NB2_10.out;have hns43_2:=NB3_10.out;have hms43_0:=NB10_1.out;have hms43_1:=NB10_2.out;have hms43_2:=NB10_3.out;refine skip_ (w1:= ?_) (by rfl) rfl ?_ ?_;rotate_left
 ·go_simp
  rfl
 refine hK.out _ _ ⟨((cell_far (p:=⟨gb10,_,none⟩) NB1_10.out _).trans (((cell_far (p:=⟨gb10,_,none⟩) NB1_10.out _).trans (((cell_far (p:=⟨gb10,_,none⟩) NB1_10.out _).trans (hHeld.1)))))),((cell_far (p:=⟨gb10,_,none⟩) NB1_10.out _).trans (((cell_far (p:=⟨gb10,_,none⟩) NB1_10.out _).trans (((cell_far (p:=⟨gb10,_,none⟩) NB1_10.out _).trans (hHeld.2.1)))))),((cell_far (p:=⟨gb10,_,none⟩) NB1_10.out _).trans (((cell_far (p:=⟨gb10,_,none⟩) NB1_10.out _).trans (((cell_far (p:=⟨gb10,_,none⟩) NB1_10.out _).trans (hHeld.2.2.1)))))),((cell_far (p:=⟨gb10,_,none⟩) NB2_10.out _).trans (((cell_far (p:=⟨gb10,_,none⟩) NB2_10.out _).trans (((cell_far (p:=⟨gb10,_,none⟩) NB2_10.out _).trans (hHeld.2.2.2.1)))))),((cell_far (p:=⟨gb10,_,none⟩) NB2_10.out _).trans (((cell_far (p:=⟨gb10,_,none⟩) NB2_10.out _).trans (((cell_far (p:=⟨gb10,_,none⟩) NB2_10.out _).trans (hHeld.2.2.2.2.1)))))),((cell_far (p:=⟨gb10,_,none⟩) NB2_10.out _).trans (((cell_far (p:=⟨gb10,_,none⟩) NB2_10.out _).trans (((cell_far (p:=⟨gb10,_,none⟩) NB2_10.out _).trans (hHeld.2.2.2.2.2.1)))))),((cell_far (p:=⟨gb10,_,none⟩) NB2_10.out _).trans (((cell_far (p:=⟨gb10,_,none⟩) NB2_10.out _).trans (((cell_far (p:=⟨gb10,_,none⟩) NB2_10.out _).trans (hHeld.2.2.2.2.2.2.1)))))),((cell_far (p:=⟨gb10,_,none⟩) NB2_10.out _).trans (((cell_far (p:=⟨gb10,_,none⟩) NB2_10.out _).trans (((cell_far (p:=⟨gb10,_,none⟩) NB2_10.out _).trans (hHeld.2.2.2.2.2.2.2.1)))))),((cell_far (p:=⟨gb10,_,none⟩) NB2_10.out _).trans (((cell_far (p:=⟨gb10,_,none⟩) NB2_10.out _).trans (((cell_far (p:=⟨gb10,_,none⟩) NB2_10.out _).trans (hHeld.2.2.2.2.2.2.2.2))))))⟩ (fun hHeld=> ?_)
 clear hK K;refine done_ (done_of HT_.out (by kernel_rfl)) ?_;have n0_:=am_ (blk_put (cs':=#[.slice Ao40 t4.length co40, .slice Ao39 t7.length co39, .int .i64 (wrap64 (a0_2+1))]) (blk_put (cs':=#[.slice Ao40 t4.length co40, .slice Ao39 t7.length co39, .int .i64 0]) (blk_put (cs':=#[.slice Ao40 t4.length co40, .slice none 0 0, .int .i64 0]) BK10.out 0 (.slice Ao40 t4.length co40) rfl) 1 (.slice Ao39 t7.length co39) rfl) 2 (.int .i64 (wrap64 (a0_2+1))) rfl);have n1_:=am_ (blk_far (p:=⟨gb10,2,none⟩) (blk_far (p:=⟨gb10,1,none⟩) (blk_far (p:=⟨gb10,0,none⟩) BK3.out NB3_10.out (.slice Ao40 t4.length co40)) NB3_10.out (.slice Ao39 t7.length co39)) NB3_10.out (.int .i64 (wrap64 (a0_2+1))));have n2_:=am_ (Kd.R_far (p:=⟨gb10,2,none⟩) (Kd.R_far (p:=⟨gb10,1,none⟩) (Kd.R_far (p:=⟨gb10,0,none⟩) (Kd.R_types HO6.out BK10.out (by decide)) (fun _ hk=>hk.2) (.slice Ao40 t4.length co40)) (fun _ hk=>hk.2) (.slice Ao39 t7.length co39)) (fun _ hk=>hk.2) (.int .i64 (wrap64 (a0_2+1))));have n3_:=am_ (Kd.R_far (p:=⟨gb10,2,none⟩) (Kd.R_far (p:=⟨gb10,1,none⟩) (Kd.R_far (p:=⟨gb10,0,none⟩) (Kd.R_types HO9.out BK10.out (by decide)) (fun _ hk=>hk.2) (.slice Ao40 t4.length co40)) (fun _ hk=>hk.2) (.slice Ao39 t7.length co39)) (fun _ hk=>hk.2) (.int .i64 (wrap64 (a0_2+1))));have n4_:=am_ (below_set (g:=gb10) (j:=2) (v:=(.int .i64 (wrap64 (a0_2+1)))) (below_set (g:=gb10) (j:=1) (v:=(.slice Ao39 t7.length co39)) (below_set (g:=gb10) (j:=0) (v:=(.slice Ao40 t4.length co40)) HB.out GE10.out) GE10.out) GE10.out)
 clear BK10 BK3 HO6 HO9 HB;generalize (((w38.setCell ⟨gb10,0,none⟩ (.slice Ao40 t4.length co40)).setCell ⟨gb10,1,none⟩ (.slice Ao39 t7.length co39)).setCell ⟨gb10,2,none⟩ (.int .i64 (wrap64 (a0_2+1))))=wz at n0_ n1_ n2_ n3_ n4_ ⊢;have BK10:=n0_;have BK3:=n1_;have HO6:=n2_;have HO9:=n3_;have HB:=n4_;clear n0_ n1_ n2_ n3_ n4_;have:=NB10_1.out;have:=NB1_10.out;have:=NB10_2.out;have:=NB2_10.out;have:=NB10_3.out;have:=NB3_10.out;obtain ⟨_,_,_,_,_,_⟩:=y3_ BK10;have:=NB3_1.out;have:=NB1_3.out;have:=NB3_2.out;have:=NB2_3.out;obtain ⟨_,_,_,_,_,_⟩:=y3_ BK3;have H:=HE.out;clear HE;by_cases c6:(wrap64 (a0_2+1))≥(t7.length:Int)
 ·rw [if_pos c6] at H;have c6b0:decide ((t7.length:Int)≤(wrap64 (a0_2+1)))=true:=decide_eq_true c6;clear c6;simp only [Option.some.injEq,Prod.mk.injEq] at H;obtain ⟨rfl,rfl,rfl⟩:=H;try go_wp2
  refine bodyPost_ret (results_cell_row rfl _ _ gb3 63 #[.slice Ao40 t4.length co40, .slice none 0 0, .int .i64 0] (0,0) _ rfl (zw_ BK3) Try.underlying63 rfl (by kernel_rfl)) rfl ?_;exact ⟨_,_,er_,by (with_reducible repeat (first|apply Kd.R_alloc|apply Kd.R_drewN|apply Kd.R_drew));exact Kd.R_mono (Kd.R_far (p:=⟨gb3,2,none⟩) (Kd.R_far (p:=⟨gb3,1,none⟩) (Kd.R_far (p:=⟨gb3,0,none⟩) (Kd.R_far (p:=⟨gb10,2,none⟩) (Kd.R_far (p:=⟨gb10,1,none⟩) (Kd.R_types (Kd.R_types HO6.out BK10.out (by decide)) BK3.out (by decide)) (fun _ hk=>hk.1.2) (.slice none 0 0)) (fun _ hk=>hk.1.2) (.int .i64 0)) (fun _ hk=>hk.2) (.slice Ao40 t4.length co40)) (fun _ hk=>hk.2) (.slice none 0 0)) (fun _ hk=>hk.2) (.int .i64 0)) (fun _ hk=>trivial),by first|exact Kd.R_nil _ _ _ _ _|exact Kd.N_nil _ _ _ _ _|exact Kd.V_nil _ _ _ _ _|exact Kd.Q_nil _ _ _ _ _|exact Kd.S_nil _ _ _ _ _,zl4_ HB GE1 GE2 GE3 GE10⟩
 rw [if_neg c6] at H;have c6b0:decide ((t7.length:Int)≤(wrap64 (a0_2+1)))=false:=decide_eq_false c6;clear c6;simp only [Option.some.injEq,Prod.mk.injEq] at H;obtain ⟨rfl,rfl,rfl⟩:=H;try go_wp2
 refine bodyPost_ret (results_cell_row rfl _ _ gb3 63 #[.slice Ao40 t4.length co40, .slice Ao39 t7.length co39, .int .i64 (wrap64 (a0_2+1))] (0,0) _ rfl (zw_ BK3) Try.underlying63 rfl (by kernel_rfl)) rfl ?_;exact ⟨_,_,er_,by (with_reducible repeat (first|apply Kd.R_alloc|apply Kd.R_drewN|apply Kd.R_drew));exact Kd.R_mono (Kd.R_far (p:=⟨gb3,2,none⟩) (Kd.R_far (p:=⟨gb3,1,none⟩) (Kd.R_far (p:=⟨gb3,0,none⟩) (Kd.R_types (Kd.R_types HO6.out BK10.out (by decide)) BK3.out (by decide)) (fun _ hk=>hk.2) (.slice Ao40 t4.length co40)) (fun _ hk=>hk.2) (.slice Ao39 t7.length co39)) (fun _ hk=>hk.2) (.int .i64 (wrap64 (a0_2+1)))) (fun _ hk=>trivial),by (with_reducible repeat (first|apply Kd.R_alloc|apply Kd.R_drewN|apply Kd.R_drew));exact Kd.R_mono (Kd.R_far (p:=⟨gb3,2,none⟩) (Kd.R_far (p:=⟨gb3,1,none⟩) (Kd.R_far (p:=⟨gb3,0,none⟩) (Kd.R_types (Kd.R_types HO9.out BK10.out (by decide)) BK3.out (by decide)) (fun _ hk=>hk.2) (.slice Ao40 t4.length co40)) (fun _ hk=>hk.2) (.slice Ao39 t7.length co39)) (fun _ hk=>hk.2) (.int .i64 (wrap64 (a0_2+1)))) (fun _ hk=>trivial),zl4_ HB GE1 GE2 GE3 GE10⟩

end Go.Proofs.Ytahidkjncljkaaa.Print

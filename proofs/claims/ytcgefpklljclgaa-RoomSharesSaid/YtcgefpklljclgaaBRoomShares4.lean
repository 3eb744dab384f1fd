/- A part of the proof of RoomShares: the machine's side by the kit's print, contracts and lemmas by this session. -/
import Derived.Laws.Strings
import Derived.Test.YtcgefpklljclgaaBRoomShares1
import Derived.Test.YtcgefpklljclgaaBRoomShares2
import Derived.Test.YtcgefpklljclgaaBRoomShares3
namespace Go.Proofs.Ytcgefpklljclgaa.Print
open Go.RowKit Go.Proofs.YtcgefpklljclgaaW.PrintWords Go.Proofs.YtcgefpklljclgaaW.PrintLast Go.Proofs.YtcgefpklljclgaaW.PrintMore
attribute [local go_sem] max2_int min2_int max_two min_two max_three min_three max_four min_four   -- for this text's walks alone
set_option linter.unusedVariables false
set_option linter.unusedSimpArgs false
attribute [local go_sem high] eqA27
mutual
def law13_RoomShares.l0 : Nat → Int → List (S31) → List ByteArray → Int → Int → Int → Int → Option (Bool)
 | 0, _, _, _, _, _, _, _ => none
 | k + 1, x1, x5, x6, x8, x6000, x6001, x6002 => if x8 ≥ 0 then (if 0 ≤ x8 then (if x8 < (x5.length : Int) then (if x6.length < 8796093022208 then ((r10_Add.f x6000 x6001 x6002 ((rd_T31 x5 x8).f3.f0) ((rd_T31 x5 x8).f3.f1) ((rd_T31 x5 x8).f3.f2)).bind fun bt11 => (law13_RoomShares.l0 k x1 x5 (x6 ++ [(rd_T31 x5 x8).f0]) (wrap64 (x8 - 1)) bt11.1 bt11.2.1 bt11.2.2)) else (none)) else (none)) else (none)) else ((room_Share.f k x5 x6).bind fun bt14 => (if (!(bt14.1 == x6000) || (!(bt14.2.1 == x6001) || (!(bt14.2.2 == x6002)))) = true then (law13_RoomShares.j1 k x1 x5 true) else ((room_Share.f k x5 ([] : List ByteArray)).bind fun bt17 => (if (!(bt17.1 == 0) || (!(bt17.2.1 == 0) || (!(bt17.2.2 == 0)))) = true then (law13_RoomShares.j1 k x1 x5 true) else ((room_Share.f k x5 (([(⟨#[110, 111, 110, 101]⟩ : ByteArray)] : List ByteArray))).bind fun bt23 => (law13_RoomShares.j1 k x1 x5 (!(bt23.1 == 0) || (!(bt23.2.1 == 0) || (!(bt23.2.2 == 0))))))))))
def law13_RoomShares.j1 : Nat → Int → List (S31) → Bool → Option (Bool)
 | 0, _, _, _ => none
 | k + 1, x1, x5, x56 => if x56 = true then (some false) else (if (x5.length : Int) = 0 then ((law13_awake.f k).bind fun t26 => (some t26)) else (if 0 ≤ (Int.tmod (wrap64 (x1)) (x5.length : Int)) then (if (Int.tmod (wrap64 (x1)) (x5.length : Int)) < (x5.length : Int) then ((some (([] : List ByteArray) : List ByteArray)).bind fun y29 => ((r10_Below.f k x5 ((rd_T31 x5 (Int.tmod (wrap64 (x1)) (x5.length : Int))).f0)).bind fun t32 => (if y29.length + t32.length < 8796093022208 then ((some (y29 ++ t32 : List ByteArray)).bind fun y35 => ((some (([(rd_T31 x5 (Int.tmod (wrap64 (x1)) (x5.length : Int))).f0, (rd_T31 x5 (Int.tmod (wrap64 (x1)) (x5.length : Int))).f0] : List ByteArray) : List ByteArray)).bind fun y38 => (if y35.length + y38.length < 8796093022208 then ((room_Share.f k x5 (y35 ++ y38)).bind fun bt44 => (if (bt44.1 == ((rd_T31 x5 (Int.tmod (wrap64 (x1)) (x5.length : Int))).f4.f0) && (bt44.2.1 == ((rd_T31 x5 (Int.tmod (wrap64 (x1)) (x5.length : Int))).f4.f1) && (bt44.2.2 == ((rd_T31 x5 (Int.tmod (wrap64 (x1)) (x5.length : Int))).f4.f2)))) = true then ((law13_awake.f k).bind fun t47 => (some t47)) else (some false))) else (none)))) else (none)))) else (none)) else (none)))
end
def law13_RoomShares.f (k : Nat) (l0 : List Int) (a1 : Int) : Option (Bool) := if (l0.length : Int) > 90 then ((law13_awake.f k).bind fun t1 => (some t1)) else ((law12_Make.f k l0).bind fun t2 => (law13_RoomShares.l0 k a1 t2 ([] : List ByteArray) (wrap64 ((t2.length : Int) - 1)) 0 0 0))
theorem law13_RoomShares.mono_l : ∀ k, (∀ y0 y1 y2 y3 y4 y5 y6, LeO (law13_RoomShares.l0 k y0 y1 y2 y3 y4 y5 y6) (law13_RoomShares.l0 (k + 1) y0 y1 y2 y3 y4 y5 y6)) ∧ (∀ y0 y1 y2, LeO (law13_RoomShares.j1 k y0 y1 y2) (law13_RoomShares.j1 (k + 1) y0 y1 y2))
 | 0 => ⟨fun _ _ _ _ _ _ _ r h => by simp [law13_RoomShares.l0] at h, fun _ _ _ r h => by simp [law13_RoomShares.j1] at h⟩
 | k + 1 => by
  obtain ⟨ih0, ih1⟩ := law13_RoomShares.mono_l k
  refine ⟨?_, ?_⟩
  ·intro y0 y1 y2 y3 y4 y5 y6
   unfold law13_RoomShares.l0
   repeat' first
   | (with_reducible exact ih0 _ _ _ _ _ _ _)
   | (with_reducible exact ih1 _ _ _)
   | (with_reducible exact law12_Make.mono _ _)
   | (with_reducible exact law13_awake.mono _)
   | (with_reducible exact r10_Below.mono _ _ _)
   | (with_reducible exact room_Share.mono _ _ _)
   | (with_reducible exact LeO.refl _)
   | (with_reducible exact LeO.none _)
   | (with_reducible refine LeO.ite ?_ ?_)
   | (with_reducible refine LeO.bind ?_ (fun _ => ?_))
   | exact ih0 _ _ _ _ _ _ _
   | exact ih1 _ _ _
   | exact law12_Make.mono _ _
   | exact law13_awake.mono _
   | exact r10_Below.mono _ _ _
   | exact room_Share.mono _ _ _
   | exact LeO.none _
   | refine LeO.ite ?_ ?_
   | refine LeO.bind ?_ (fun _ => ?_)
  ·intro y0 y1 y2
   unfold law13_RoomShares.j1
   repeat' first
   | (with_reducible exact ih0 _ _ _ _ _ _ _)
   | (with_reducible exact ih1 _ _ _)
   | (with_reducible exact law12_Make.mono _ _)
   | (with_reducible exact law13_awake.mono _)
   | (with_reducible exact r10_Below.mono _ _ _)
   | (with_reducible exact room_Share.mono _ _ _)
   | (with_reducible exact LeO.refl _)
   | (with_reducible exact LeO.none _)
   | (with_reducible refine LeO.ite ?_ ?_)
   | (with_reducible refine LeO.bind ?_ (fun _ => ?_))
   | exact ih0 _ _ _ _ _ _ _
   | exact ih1 _ _ _
   | exact law12_Make.mono _ _
   | exact law13_awake.mono _
   | exact r10_Below.mono _ _ _
   | exact room_Share.mono _ _ _
   | exact LeO.none _
   | refine LeO.ite ?_ ?_
   | refine LeO.bind ?_ (fun _ => ?_)
theorem law13_RoomShares.mono : ∀ a0 a1 k, LeO (law13_RoomShares.f k a0 a1) (law13_RoomShares.f (k + 1) a0 a1) := by
 intro a0 a1 k
 obtain ⟨ih0, ih1⟩ := law13_RoomShares.mono_l k
 unfold law13_RoomShares.f
 repeat' first
   | (with_reducible exact ih0 _ _ _ _ _ _ _)
   | (with_reducible exact ih1 _ _ _)
   | (with_reducible exact law12_Make.mono _ _)
   | (with_reducible exact law13_awake.mono _)
   | (with_reducible exact r10_Below.mono _ _ _)
   | (with_reducible exact room_Share.mono _ _ _)
   | (with_reducible exact LeO.refl _)
   | (with_reducible exact LeO.none _)
   | (with_reducible refine LeO.ite ?_ ?_)
   | (with_reducible refine LeO.bind ?_ (fun _ => ?_))
   | exact ih0 _ _ _ _ _ _ _
   | exact ih1 _ _ _
   | exact law12_Make.mono _ _
   | exact law13_awake.mono _
   | exact r10_Below.mono _ _ _
   | exact room_Share.mono _ _ _
   | exact LeO.none _
   | refine LeO.ite ?_ ?_
   | refine LeO.bind ?_ (fun _ => ?_)
def law13_RoomShares.T10 : Bool × List (List Nat × List Nat) := (true, [([], []), ([], []), ([], []), ([1, 2], [1, 2]), ([3], [3]), ([4], [4]), ([0, 5], [0, 5]), ([6, 6, 0, 1, 2, 3, 4, 5, 6], [6])])
def law13_RoomShares.B10 : List Nat := [0, 0, 0, 6, 14, 30, 63, 127]
theorem law13_RoomShares.tab10 : rtab .any (opsOf Try.f15 10) = law13_RoomShares.T10 := by kernel_rfl
theorem law13_RoomShares.bits10 : waitsOk law13_RoomShares.T10.2 law13_RoomShares.B10 = true := by kernel_rfl
def law13_RoomShares.T11 : Bool × List (List Nat × List Nat) := (true, [([], []), ([], []), ([0, 1], [0, 1]), ([], []), ([2, 3], [2, 3]), ([4, 2], [4]), ([5], [5]), ([6, 5, 5], [5, 6]), ([5], [5]), ([7, 8, 5], [5, 7, 8]), ([5, 9], [5, 9]), ([10, 7], [10]), ([11], [11]), ([11], [11]), ([12, 13, 11, 11], [11, 12, 13]), ([11], [11]), ([14, 15, 11], [11, 14, 15]), ([11, 16], [11, 16])])
def law13_RoomShares.B11 : List Nat := [0, 0, 3, 0, 15, 31, 63, 127, 63, 511, 1023, 2047, 4095, 4095, 16383, 4095, 65535, 131071]
theorem law13_RoomShares.tab11 : rtab .any (opsOf Try.f15 11) = law13_RoomShares.T11 := by kernel_rfl
theorem law13_RoomShares.bits11 : waitsOk law13_RoomShares.T11.2 law13_RoomShares.B11 = true := by kernel_rfl
def law13_RoomShares.T18 : Bool × List (List Nat × List Nat) := (true, [([], []), ([], []), ([0, 1], [0, 1]), ([], []), ([3], [3]), ([2, 4], [2, 4]), ([5, 2], [5]), ([6, 6], [6]), ([6, 7], [6, 7]), ([8, 7, 0, 1, 2, 3, 4, 5, 6, 7, 8], [8])])
def law13_RoomShares.B18 : List Nat := [0, 0, 3, 0, 8, 31, 63, 127, 255, 511]
theorem law13_RoomShares.tab18 : rtab .any (opsOf Try.f15 18) = law13_RoomShares.T18 := by kernel_rfl
theorem law13_RoomShares.bits18 : waitsOk law13_RoomShares.T18.2 law13_RoomShares.B18 = true := by kernel_rfl
set_option maxHeartbeats 8000000 in
set_option maxRecDepth 100000 in
theorem law13_RoomShares.calls (k : Nat) (A0 : Option Addr) (c0 : Nat) (l0 : List Int) (a1 : Int) (r : Bool) (w : World) (hr0 : Kd.C (Kd.int .u8) w A0 l0.length l0) (hc0 : l0.length ≤ c0) (h : law13_RoomShares.f k l0 a1 = some r) :
  Calls Try.prog 15 #[.slice A0 l0.length c0, .int .u8 a1] w fun e w' => e = .returned (.bool r) ∧ Below w.heap.size w w' := by
 have hu27 := Try.underlying27
 have hu31 := Try.underlying31
 have HR0 := Aside0.mk hr0
 have HC0 := Aside0.mk hc0
 clear hr0 hc0
 have HB := Aside0.mk (Below.refl w.heap.size w)
 have H : (if (l0.length : Int) > 90 then ((law13_awake.f k).bind fun t1 => (some t1)) else ((law12_Make.f k l0).bind fun t2 => (law13_RoomShares.l0 k a1 t2 ([] : List ByteArray) (wrap64 ((t2.length : Int) - 1)) 0 0 0))) = some r := h
 clear h
 by_cases c3 : (l0.length : Int) > 90
 ·rw [if_pos c3] at H
  have c3b0 : decide (90 < (l0.length : Int)) = true := decide_eq_true c3
  have c3b1 : decide (90 < l0.length) = true := decide_eq_true (by omega)
  clear c3
  replace H := Option.bind_eq_some_iff.mp H
  obtain ⟨t1, A40, H⟩ := H
  replace H : (some t1) = some r := H
  have A4 := Aside0.mk A40
  clear A40
  obtain rfl := Option.some.inj H
  go_enter Try.func15, Try.ntmps15
  go_wp2_with (first | ((with_reducible refine gate_callee (f := 31) rfl ?_); refine goesL_ (some 14) rfl rfl Try.func31 (by kernel_rfl) rfl #[] rfl (by (try simp only [List.map_toArray, List.map_cons, List.map_nil]); first | done | rfl | (simp only [List.length_drop, List.length_take]; rfl)) ?_; (with_reducible refine (law13_awake.calls k  t1 _ A4.out).mono ?_); rintro e w5 ⟨rfl, hb⟩; refine ⟨_, rfl, ?_⟩; have n0_ := Aside0.mk (below_step (by repeat (first | (with_reducible first | exact HB.out | apply below_alloc | apply pw_below_drewN | apply below_drew1) | exact HB.out)) hb); clear HB; have HB := n0_; clear n0_; (try clear hb); (try clear hb2); (try clear hk); (try clear hi)))
  go_ret
  exact ⟨by first | rfl | (simp [errW_none, errW_some] <;> rfl) | (simp [*, errW_none, errW_some] <;> rfl), by repeat (first | (with_reducible first | exact HB.out | apply below_alloc | apply pw_below_drewN | apply below_drew1) | exact HB.out)⟩
 ·rw [if_neg c3] at H
  have c3b0 : decide (90 < (l0.length : Int)) = false := decide_eq_false c3
  have c3b1 : decide (90 < l0.length) = false := decide_eq_false (by omega)
  clear c3
  replace H := Option.bind_eq_some_iff.mp H
  obtain ⟨t2, A60, H⟩ := H
  replace H : (law13_RoomShares.l0 k a1 t2 ([] : List ByteArray) (wrap64 ((t2.length : Int) - 1)) 0 0 0) = some r := H
  have A6 := Aside0.mk A60
  clear A60
  have H' := Aside0.mk H
  clear H
  go_enter Try.func15, Try.ntmps15
  go_wp2_with (first | ((with_reducible refine gate_callee (f := 32) rfl ?_); refine goesL_ (some 16) rfl rfl Try.func32 (by kernel_rfl) rfl #[.slice A0 l0.length c0] rfl (by (try simp only [List.map_toArray, List.map_cons, List.map_nil]); first | done | rfl | (simp only [List.length_drop, List.length_take]; rfl)) ?_; (with_reducible refine (law12_Make.calls k _ _ l0 t2 _ ?side1 ?side2 A6.out).mono ?_); (case side1 => repeat (first | exact HR0.out | (with_reducible refine Kd.C_alloc ?_ _) | (with_reducible refine Kd.C_drewN ?_ _) | (with_reducible refine Kd.C_drew ?_))); (case side2 => exact HC0.out); rintro e w7 ⟨v3, rfl, ho0, hb⟩; refine ⟨_, rfl, ?_⟩; have n0_ := Aside0.mk (Kd.R_lower ho0 (below_size (by repeat (first | (with_reducible first | exact HB.out | apply below_alloc | apply pw_below_drewN | apply below_drew1) | exact HB.out)))); have n1_ := Aside0.mk (below_step (by repeat (first | (with_reducible first | exact HB.out | apply below_alloc | apply pw_below_drewN | apply below_drew1) | exact HB.out)) hb); clear HB; have HO4 := n0_; have HB := n1_; clear n0_ n1_; (try clear hb); (try clear hb2); (try clear hk); (try clear hi); (try clear ho0)) | ((with_reducible refine gate_dst (N := 7) rfl ?_); (try (refine gate_guard (by rfl) ?_; dsimp only)); refine box_event ?hg (N := 7) ?hd (cs := #[.int .i64 0, .int .i64 0, .int .i64 0]) (t := 27) ?hr ?_; (case hd => rfl); (case hg => rfl); (case hr => first | (go_simp; done) | (go_simp; rfl)); intro gb5 hg w8 hbox hb; have n0_ := Aside0.mk (Kd.R_below (by (with_reducible repeat (first | apply Kd.R_alloc | apply Kd.R_drewN | apply Kd.R_drew)); exact HO4.out) hb); have n1_ := Aside0.mk (below_step (by repeat (first | (with_reducible first | exact HB.out | apply below_alloc | apply pw_below_drewN | apply below_drew1) | exact HB.out)) hb); have n2_ := Aside0.mk (hbox); have n3_ := Aside0.mk ((by rw [hg]; exact (below_size (by repeat (first | (with_reducible first | exact HB.out | apply below_alloc | apply pw_below_drewN | apply below_drew1) | exact HB.out))) : w.heap.size ≤ gb5)); have n4_ := Aside0.mk ((by rw [hg]; exact (below_size (by repeat (first | (with_reducible first | exact HB.out | apply below_alloc | apply pw_below_drewN | apply below_drew1) | exact HB.out))) : w.heap.size ≤ gb5)); clear HO4; clear HB; have HO4 := n0_; have HB := n1_; have BK5 := n2_; have GW5 := n3_; have GE5 := n4_; clear n0_ n1_ n2_ n3_ n4_; clear hb hbox hg; obtain ⟨Ao9, co9, eo9⟩ := Kd.R_slice HO4.out; subst eo9))
  go_loopg [6, 8] k (fun kq v6 v8 w' => ∃ (x6_1 : List ByteArray) (x8_1 : Int) (x6000_1 : Int) (x6001_1 : Int) (x6002_1 : Int), v8 = .int .i64 x8_1 ∧ Aside0 (law13_RoomShares.l0 kq a1 t2 x6_1 x8_1 x6000_1 x6001_1 x6002_1 = some r) ∧ Aside0 (kq ≤ k) ∧ Aside0 (Kd.R k31 31 w' w.heap.size (fun _ => True) (.slice Ao9 t2.length co9) t2) ∧ Aside0 (Kd.R Kd.string 9 w' w.heap.size (fun _ => True) v6 x6_1) ∧ Aside0 (w'.heap[gb5]? = some (.cells #[.int .i64 x6000_1, .int .i64 x6001_1, .int .i64 x6002_1] 27 (0, 0))) ∧ Aside0 (Below w.heap.size w w'))
  case atStart => exact ⟨(([] : List ByteArray)), (wrap64 ((t2.length : Int) - 1)), (0), (0), (0), (by first | rfl | (simp; done) | (simp [*]; done)), H', ⟨Nat.le_refl _⟩, ⟨by (with_reducible repeat (first | apply Kd.R_alloc | apply Kd.R_drewN | apply Kd.R_drew)); exact HO4.out⟩, ⟨by first | exact Kd.R_nil _ _ _ _ _ | exact Kd.N_nil _ _ _ _ _ | exact Kd.V_nil _ _ _ _ _ | exact Kd.Q_nil _ _ _ _ _ | exact Kd.S_nil _ _ _ _ _⟩, ⟨by (with_reducible repeat (first | refine blk_drewN ?_ _ | refine blk_drew ?_ | refine blk_alloc ?_ _)); exact BK5.out⟩, ⟨by repeat (first | (with_reducible first | exact HB.out | apply below_alloc | apply pw_below_drewN | apply below_drew1 | refine below_set ?_ GE5.out) | exact HB.out)⟩⟩
  case round =>
   clear H'
   try clear c1
   try clear p2
   try clear c3
   try clear c3b0
   try clear c3b1
   try clear p6
   obtain ⟨x6_1, x8_1, x6000_1, x6001_1, x6002_1, rfl, HA, HK1, HO_5, HO_6, BK5, HB⟩ := hrel
   cases gk with
   | zero => exact absurd HA.out (by simp [law13_RoomShares.l0])
   | succ k1 =>
    have H := HA.out
    clear HA
    simp only [law13_RoomShares.l0] at H
    by_cases c10 : x8_1 ≥ 0
    ·rw [if_pos c10] at H
     have c10b0 : decide (0 ≤ x8_1) = true := decide_eq_true c10
     clear c10
     by_cases c11 : 0 ≤ x8_1
     ·rw [if_pos c11] at H
      have c11b0 : decide (0 ≤ x8_1) = true := decide_eq_true c11
      clear c11
      by_cases c12 : x8_1 < (t2.length : Int)
      ·rw [if_pos c12] at H
       have c12b0 : decide (x8_1 < (t2.length : Int)) = true := decide_eq_true c12
       clear c12
       by_cases c13 : x6_1.length < 8796093022208
       ·rw [if_pos c13] at H
        have LMc13 := Aside0.mk c13
        clear c13
        obtain ⟨y7, hy7⟩ : ∃ y_ : List ByteArray, y_ = (x6_1 ++ [(rd_T31 t2 x8_1).f0]) := ⟨_, rfl⟩
        replace H : ((r10_Add.f x6000_1 x6001_1 x6002_1 ((rd_T31 t2 x8_1).f3.f0) ((rd_T31 t2 x8_1).f3.f1) ((rd_T31 t2 x8_1).f3.f2)).bind fun bt11 => (law13_RoomShares.l0 k1 a1 t2 y7 (wrap64 (x8_1 - 1)) bt11.1 bt11.2.1 bt11.2.2)) = some r := by first | (rw [hy7]; with_reducible exact H) | (have H2_ := (Option.bind_some _ _).symm.trans H; rw [hy7]; with_reducible exact H2_) | (have H2_ := (Option.bind_some _ _).symm.trans H; with_reducible exact H2_) | with_reducible exact H | (rw [hy7]; exact H) | exact H
        have Ny7 := Aside0.mk hy7
        clear hy7
        replace H := Option.bind_eq_some_iff.mp H
        obtain ⟨⟨t11, t12, t13⟩, A140, H⟩ := H
        replace H : (law13_RoomShares.l0 k1 a1 t2 y7 (wrap64 (x8_1 - 1)) t11 t12 t13) = some r := H
        have A14 := Aside0.mk A140
        clear A140
        have H' := Aside0.mk H
        clear H
        have p6 : 0 ≤ (x8_1 : Int) := of_decide_eq_true (by first | (with_reducible assumption) | assumption)
        have q6 : x8_1 < (t2.length : Int) := of_decide_eq_true (by first | (with_reducible assumption) | assumption)
        obtain ⟨ad6, e6, hx6_0, hx6_1, hx6_2, hx6_3, hx6_4, hx6_5, hx6_6, hx6_7, hx6_8, hx6_9, hx6_10, hx6_11⟩ := at_T31 (Kd.R_reads' HO_5.out).2.2 x8_1 p6 q6
        cases e6
        replace p6 := eq_true p6
        replace q6 := eq_true q6
        try go_wp2_with (first | ((with_reducible refine gate_builtin (b := .append) (xs := #[.tmp 24, .tmp 30]) rfl ?_); (try (refine gate_guard (by rfl) ?_; dsimp only)); at_builtin; refine Kd.R_append Kd.string (w0 := w) w.heap.size rfl (.tmp 24) (.tmp 30) 74 9 (.string ⟨#[]⟩) 16 rfl Try.underlying74 info9 rfl (by decide) (by omega) u6 x6_1 ((rd_T31 t2 x8_1).f0) [.string ((rd_T31 t2 x8_1).f0)] (fun _ => True) (fun _ => False) rfl rfl ?aP (fun _ hk => hk.elim) ?aF ?aO ?aB ?aS ?aL ?_; (case aP => exact rfl); (case aB => exact (by repeat (first | (with_reducible first | exact HB.out | apply below_alloc | apply pw_below_drewN | apply below_drew1 | refine below_set ?_ GE5.out) | exact HB.out))); (case aF => exact (fun _ _ => trivial)); (case aO => exact (by (with_reducible repeat (first | apply Kd.R_alloc | apply Kd.R_drewN | apply Kd.R_drew)); exact HO_6.out)); (case aS => exact (below_size (by repeat (first | (with_reducible first | exact HB.out | apply below_alloc | apply pw_below_drewN | apply below_drew1 | refine below_set ?_ GE5.out) | exact HB.out)))); (case aL => have := LMc13.out; omega); intro v8 w15 ho hb hg hat; rw [← Ny7.out] at ho; have n0_ := Aside0.mk (Kd.R_over' (by (with_reducible repeat (first | apply Kd.R_alloc | apply Kd.R_drewN | apply Kd.R_drew)); exact HO_5.out) (Kd.R_typed (by (with_reducible repeat (first | apply Kd.R_alloc | apply Kd.R_drewN | apply Kd.R_drew)); exact HO_6.out)) (by decide) hg); have n1_ := Aside0.mk (blk_grown (g := gb5) (o := .cells #[.int .i64 x6000_1, .int .i64 x6001_1, .int .i64 x6002_1] 27 (0, 0)) (by (with_reducible repeat (first | refine blk_drewN ?_ _ | refine blk_drew ?_ | refine blk_alloc ?_ _)); exact BK5.out) hg (Kd.R_ne HO_6.out BK5.out (by decide))); have n2_ := Aside0.mk (hb); have n3_ := Aside0.mk (ho); clear HO_5; clear BK5; clear HB; clear HO_6; have HO_5 := n0_; have BK5 := n1_; have HB := n2_; have HO9 := n3_; clear n0_ n1_ n2_ n3_; clear ho hb hg hat))
        have n0_ := Aside0.mk (Kd.R_drew HO_5.out)
        have n1_ := Aside0.mk (Kd.R_drew HO9.out)
        have n2_ := Aside0.mk (blk_drew BK5.out)
        have n3_ := Aside0.mk (below_drew1 HB.out)
        clear HO_5
        clear HO9
        clear BK5
        clear HB
        have HO_5 := n0_
        have HO9 := n1_
        have BK5 := n2_
        have HB := n3_
        clear n0_ n1_ n2_ n3_
        have p10 : 0 ≤ (x8_1 : Int) := of_decide_eq_true (by first | (with_reducible assumption) | assumption)
        have q10 : x8_1 < (t2.length : Int) := of_decide_eq_true (by first | (with_reducible assumption) | assumption)
        obtain ⟨ad10, e10, hx10_0, hx10_1, hx10_2, hx10_3, hx10_4, hx10_5, hx10_6, hx10_7, hx10_8, hx10_9, hx10_10, hx10_11⟩ := at_T31 (Kd.R_reads' HO_5.out).2.2 x8_1 p10 q10
        obtain rfl : ad6 = ad10 := (by injection e10)
        replace p10 := eq_true p10
        replace q10 := eq_true q10
        refine start_ (n := 8) (S := fun w' => w'.cell? ⟨gb5, 0, none⟩ = some (.int .i64 x6000_1) ∧ w'.cell? ⟨gb5, 1, none⟩ = some (.int .i64 x6001_1) ∧ w'.cell? ⟨gb5, 2, none⟩ = some (.int .i64 x6002_1) ∧ w'.cell? (ad6.add ((x8_1).toNat * 12)) = some (.string ((rd_T31 t2 x8_1).f0)) ∧ w'.cell? ⟨(ad6.add ((x8_1).toNat * 12)).block, (ad6.add ((x8_1).toNat * 12)).off + 1, none⟩ = some (.string ((rd_T31 t2 x8_1).f1)) ∧ w'.cell? ⟨(ad6.add ((x8_1).toNat * 12)).block, (ad6.add ((x8_1).toNat * 12)).off + 2, none⟩ = some (.int .i64 ((rd_T31 t2 x8_1).f2.f0)) ∧ w'.cell? ⟨(ad6.add ((x8_1).toNat * 12)).block, (ad6.add ((x8_1).toNat * 12)).off + 3, none⟩ = some (.int .i64 ((rd_T31 t2 x8_1).f2.f1)) ∧ w'.cell? ⟨(ad6.add ((x8_1).toNat * 12)).block, (ad6.add ((x8_1).toNat * 12)).off + 4, none⟩ = some (.int .i64 ((rd_T31 t2 x8_1).f2.f2)) ∧ w'.cell? ⟨(ad6.add ((x8_1).toNat * 12)).block, (ad6.add ((x8_1).toNat * 12)).off + 5, none⟩ = some (.int .i64 ((rd_T31 t2 x8_1).f3.f0)) ∧ w'.cell? ⟨(ad6.add ((x8_1).toNat * 12)).block, (ad6.add ((x8_1).toNat * 12)).off + 6, none⟩ = some (.int .i64 ((rd_T31 t2 x8_1).f3.f1)) ∧ w'.cell? ⟨(ad6.add ((x8_1).toNat * 12)).block, (ad6.add ((x8_1).toNat * 12)).off + 7, none⟩ = some (.int .i64 ((rd_T31 t2 x8_1).f3.f2)) ∧ w'.cell? ⟨(ad6.add ((x8_1).toNat * 12)).block, (ad6.add ((x8_1).toNat * 12)).off + 8, none⟩ = some (.int .i64 ((rd_T31 t2 x8_1).f4.f0)) ∧ w'.cell? ⟨(ad6.add ((x8_1).toNat * 12)).block, (ad6.add ((x8_1).toNat * 12)).off + 9, none⟩ = some (.int .i64 ((rd_T31 t2 x8_1).f4.f1)) ∧ w'.cell? ⟨(ad6.add ((x8_1).toNat * 12)).block, (ad6.add ((x8_1).toNat * 12)).off + 10, none⟩ = some (.int .i64 ((rd_T31 t2 x8_1).f4.f2)) ∧ w'.cell? ⟨(ad6.add ((x8_1).toNat * 12)).block, (ad6.add ((x8_1).toNat * 12)).off + 11, none⟩ = some (.int .i64 ((rd_T31 t2 x8_1).f5))) (ds := [7]) #[false, false, false, false, false, false, false, false] (by kernel_rfl) rfl rfl ⟨(blk_cell BK5.out 0).trans rfl, (blk_cell BK5.out 1).trans rfl, (blk_cell BK5.out 2).trans rfl, hx10_0, hx10_1, hx10_2, hx10_3, hx10_4, hx10_5, hx10_6, hx10_7, hx10_8, hx10_9, hx10_10, hx10_11⟩ (fun hHeld => ?_); refine with_tabW law13_RoomShares.tab10 law13_RoomShares.bits10 (fun HT_ HW_ => ?_)
        generalize w15.drew = w16 at HO_5 HO9 BK5 HB hx10_0 hx10_1 hx10_10 hx10_11 hx10_2 hx10_3 hx10_4 hx10_5 hx10_6 hx10_7 hx10_8 hx10_9 hHeld ⊢
        refine pure_ (i := 1) (N := some 33) (v := ?_) (a' := ?_) #[false, true, false, false, false, false, false, false] rfl rfl (any_of HT_.out (by kernel_rfl)) (fun _ _ _ h => h) (Or.inl ⟨by rfl, ?_⟩) ?_ ?_
        rotate_left
        ·intro w'
         go_simp
         with_reducible rfl
        rotate_left
        ·simp only [Act.put, List.setIfInBounds_toArray, List.set_cons_zero, List.set_cons_succ, i64_w, i32_w]
         rfl
        refine pure_ (i := 2) (N := some 34) (v := ?_) (a' := ?_) #[false, true, true, false, false, false, false, false] rfl rfl (any_of HT_.out (by kernel_rfl)) (fun _ _ _ h => h) (Or.inl ⟨by rfl, ?_⟩) ?_ ?_
        rotate_left
        ·intro w'
         go_simp
         with_reducible rfl
        rotate_left
        ·simp only [Act.put, List.setIfInBounds_toArray, List.set_cons_zero, List.set_cons_succ, i64_w, i32_w]
         rfl
        refine pure_ (i := 3) (N := some 35) (v := ?_) (a' := ?_) #[false, true, true, true, false, false, false, false] rfl rfl (any_of HT_.out (by kernel_rfl)) (fun _ _ _ h => h) (Or.inl ⟨by rfl, ?_⟩) ?_ ?_
        rotate_left
        ·intro w'
         go_simp
         with_reducible rfl
        rotate_left
        ·simp only [Act.put, List.setIfInBounds_toArray, List.set_cons_zero, List.set_cons_succ, i64_w, i32_w]
         rfl
        refine pure_ (i := 4) (N := some 36) (v := ?_) (a' := ?_) #[false, true, true, true, true, false, false, false] rfl rfl (any_of HT_.out (by kernel_rfl)) (fun _ _ _ h => h) (Or.inl ⟨by rfl, ?_⟩) ?_ ?_
        rotate_left
        ·intro w'
         go_simp
         with_reducible rfl
        rotate_left
        ·simp only [Act.put, List.setIfInBounds_toArray, List.set_cons_zero, List.set_cons_succ, i64_w, i32_w]
         rfl
        refine take_ (i := 0) (N := some 32) (v := ?_) (a' := ?_) #[true, true, true, true, true, false, false, false] rfl rfl (take_ofW HT_.out HW_.out (by kernel_rfl)) (fun _ _ _ h => h) (Or.inl ⟨by rfl, ?_⟩) hHeld ?_ ?_
        rotate_left
        ·rintro w' ⟨s0, s1, s2, s3, s4, s5, s6, s7, s8, s9, s10, s11, s12, s13, s14⟩
         go_simp
         with_reducible rfl
        rotate_left
        ·simp only [Act.put, List.setIfInBounds_toArray, List.set_cons_zero, List.set_cons_succ, i64_w, i32_w]
         rfl
        refine take_ (i := 5) (N := some 37) (v := ?_) (a' := ?_) #[true, true, true, true, true, true, false, false] rfl rfl (take_ofW HT_.out HW_.out (by kernel_rfl)) (fun _ _ _ h => h) (Or.inl ⟨by rfl, ?_⟩) hHeld ?_ ?_
        rotate_left
        ·rintro w' ⟨s0, s1, s2, s3, s4, s5, s6, s7, s8, s9, s10, s11, s12, s13, s14⟩
         go_simp
         with_reducible rfl
        rotate_left
        ·simp only [Act.put, List.setIfInBounds_toArray, List.set_cons_zero, List.set_cons_succ, i64_w, i32_w]
         rfl
        refine one_ (i := 6) (N := some 38) #[true, true, true, true, true, true, true, false] rfl rfl (one_of HT_.out (by kernel_rfl)) (by decide) (fun K hK => ?_)
        refine goes_ Try.func63 (by kernel_rfl) rfl #[.agg #[.int .i64 x6000_1, .int .i64 x6001_1, .int .i64 x6002_1], .agg #[.int .i64 ((rd_T31 t2 x8_1).f3.f0), .int .i64 ((rd_T31 t2 x8_1).f3.f1), .int .i64 ((rd_T31 t2 x8_1).f3.f2)]] (by rfl) rfl rfl (by (try simp only [List.map_toArray, List.map_cons, List.map_nil]); first | done | rfl | (simp only [List.length_drop, List.length_take]; rfl)) ?_
        with_reducible refine (r10_Add.calls x6000_1 x6001_1 x6002_1 ((rd_T31 t2 x8_1).f3.f0) ((rd_T31 t2 x8_1).f3.f1) ((rd_T31 t2 x8_1).f3.f2) t11 t12 t13 _ A14.out).mono ?_
        rintro e w17 ⟨rfl, hb⟩
        have HS3_ := (hb.cell (World.block_lt_of_cell? _ _ (hHeld.2.2.2.1))).trans (hHeld.2.2.2.1)
        have HS4_ := (hb.cell (World.block_lt_of_cell? _ _ (hHeld.2.2.2.2.1))).trans (hHeld.2.2.2.2.1)
        have HS5_ := (hb.cell (World.block_lt_of_cell? _ _ (hHeld.2.2.2.2.2.1))).trans (hHeld.2.2.2.2.2.1)
        have HS6_ := (hb.cell (World.block_lt_of_cell? _ _ (hHeld.2.2.2.2.2.2.1))).trans (hHeld.2.2.2.2.2.2.1)
        have HS7_ := (hb.cell (World.block_lt_of_cell? _ _ (hHeld.2.2.2.2.2.2.2.1))).trans (hHeld.2.2.2.2.2.2.2.1)
        have HS8_ := (hb.cell (World.block_lt_of_cell? _ _ (hHeld.2.2.2.2.2.2.2.2.1))).trans (hHeld.2.2.2.2.2.2.2.2.1)
        have HS9_ := (hb.cell (World.block_lt_of_cell? _ _ (hHeld.2.2.2.2.2.2.2.2.2.1))).trans (hHeld.2.2.2.2.2.2.2.2.2.1)
        have HS10_ := (hb.cell (World.block_lt_of_cell? _ _ (hHeld.2.2.2.2.2.2.2.2.2.2.1))).trans (hHeld.2.2.2.2.2.2.2.2.2.2.1)
        have HS11_ := (hb.cell (World.block_lt_of_cell? _ _ (hHeld.2.2.2.2.2.2.2.2.2.2.2.1))).trans (hHeld.2.2.2.2.2.2.2.2.2.2.2.1)
        have HS12_ := (hb.cell (World.block_lt_of_cell? _ _ (hHeld.2.2.2.2.2.2.2.2.2.2.2.2.1))).trans (hHeld.2.2.2.2.2.2.2.2.2.2.2.2.1)
        have HS13_ := (hb.cell (World.block_lt_of_cell? _ _ (hHeld.2.2.2.2.2.2.2.2.2.2.2.2.2.1))).trans (hHeld.2.2.2.2.2.2.2.2.2.2.2.2.2.1)
        have HS14_ := (hb.cell (World.block_lt_of_cell? _ _ (hHeld.2.2.2.2.2.2.2.2.2.2.2.2.2.2))).trans (hHeld.2.2.2.2.2.2.2.2.2.2.2.2.2.2)
        refine ⟨_, rfl, ?_⟩
        have n0_ := Aside0.mk (Kd.R_below (by (with_reducible repeat (first | apply Kd.R_alloc | apply Kd.R_drewN | apply Kd.R_drew)); exact HO_5.out) hb)
        have n1_ := Aside0.mk (Kd.R_below (by (with_reducible repeat (first | apply Kd.R_alloc | apply Kd.R_drewN | apply Kd.R_drew)); exact HO9.out) hb)
        have n2_ := Aside0.mk (blk_below (g := gb5) (o := .cells #[.int .i64 x6000_1, .int .i64 x6001_1, .int .i64 x6002_1] 27 (0, 0)) (by (with_reducible repeat (first | refine blk_drewN ?_ _ | refine blk_drew ?_ | refine blk_alloc ?_ _)); exact BK5.out) hb)
        have n3_ := Aside0.mk (below_step (by repeat (first | (with_reducible first | exact HB.out | apply below_alloc | apply pw_below_drewN | apply below_drew1 | refine below_set ?_ GE5.out) | exact HB.out)) hb)
        clear HO_5
        clear HO9
        clear BK5
        clear HB
        have HO_5 := n0_
        have HO9 := n1_
        have BK5 := n2_
        have HB := n3_
        clear n0_ n1_ n2_ n3_
        (try clear hb)
        (try clear hb2)
        (try clear hk)
        (try clear hi)
        refine hK.out _ _ ⟨(blk_cell BK5.out 0).trans rfl, (blk_cell BK5.out 1).trans rfl, (blk_cell BK5.out 2).trans rfl, HS3_, HS4_, HS5_, HS6_, HS7_, HS8_, HS9_, HS10_, HS11_, HS12_, HS13_, HS14_⟩ (fun hHeld => ?_)
        clear hK K
        refine norm_ (a' := ?_) ?_ ?_
        rotate_left
        ·show Act.put _ (some 38) _ = _
         simp only [Act.put, List.setIfInBounds_toArray, List.set_cons_zero, List.set_cons_succ, i64_w, i32_w]
         rfl
        refine last_ (i := 7) (N := none) #[true, true, true, true, true, true, true, true] rfl rfl (one_of HT_.out (by kernel_rfl)) (by decide) (fun K hK => ?_)
        have hs18 : w17.cell? ⟨gb5, 0, none⟩ = some (.int .i64 x6000_1) := (blk_cell BK5.out 0).trans rfl
        have hfs18 := blk_frozen BK5.out 0
        have hs19 : w17.cell? ⟨gb5, 1, none⟩ = some (.int .i64 x6001_1) := (blk_cell BK5.out 1).trans rfl
        have hfs19 := blk_frozen BK5.out 1
        have hs20 : w17.cell? ⟨gb5, 2, none⟩ = some (.int .i64 x6002_1) := (blk_cell BK5.out 2).trans rfl
        have hfs20 := blk_frozen BK5.out 2
        refine skip_ (w1 := ?_) (by rfl) rfl ?_ ?_
        rotate_left
        ·go_simp
         rfl
        refine hK.out _ _ ?_
        clear hK K
        refine done_ (done_of HT_.out (by kernel_rfl)) ?_
        try go_wp2
        go_roundg k1
        case measure => have := HK1.out; omega
        case rel => exact ⟨(y7), (wrap64 (x8_1 - 1)), (t11), (t12), (t13), (by first | rfl | (simp; done) | (simp [*]; done)), H', ⟨by have := HK1.out; omega⟩, ⟨by (with_reducible repeat (first | apply Kd.R_alloc | apply Kd.R_drewN | apply Kd.R_drew)); exact Kd.R_mono (Kd.R_far (p := ⟨gb5, 2, none⟩) (Kd.R_far (p := ⟨gb5, 1, none⟩) (Kd.R_far (p := ⟨gb5, 0, none⟩) (Kd.R_types HO_5.out BK5.out (by decide)) (fun _ hk => hk.2) (.int .i64 t11)) (fun _ hk => hk.2) (.int .i64 t12)) (fun _ hk => hk.2) (.int .i64 t13)) (fun _ hk => trivial)⟩, ⟨by (with_reducible repeat (first | apply Kd.R_alloc | apply Kd.R_drewN | apply Kd.R_drew)); exact Kd.R_mono (Kd.R_far (p := ⟨gb5, 2, none⟩) (Kd.R_far (p := ⟨gb5, 1, none⟩) (Kd.R_far (p := ⟨gb5, 0, none⟩) (Kd.R_types HO9.out BK5.out (by decide)) (fun _ hk => hk.2) (.int .i64 t11)) (fun _ hk => hk.2) (.int .i64 t12)) (fun _ hk => hk.2) (.int .i64 t13)) (fun _ hk => trivial)⟩, ⟨by (with_reducible repeat (first | refine blk_drewN ?_ _ | refine blk_drew ?_ | refine blk_alloc ?_ _)); refine blk_put (cs := #[.int .i64 t11, .int .i64 t12, .int .i64 x6002_1]) ?_ 2 _ rfl; (with_reducible repeat (first | refine blk_drewN ?_ _ | refine blk_drew ?_ | refine blk_alloc ?_ _)); refine blk_put (cs := #[.int .i64 t11, .int .i64 x6001_1, .int .i64 x6002_1]) ?_ 1 _ rfl; (with_reducible repeat (first | refine blk_drewN ?_ _ | refine blk_drew ?_ | refine blk_alloc ?_ _)); refine blk_put (cs := #[.int .i64 x6000_1, .int .i64 x6001_1, .int .i64 x6002_1]) ?_ 0 _ rfl; (with_reducible repeat (first | refine blk_drewN ?_ _ | refine blk_drew ?_ | refine blk_alloc ?_ _)); exact BK5.out⟩, ⟨by repeat (first | (with_reducible first | exact HB.out | apply below_alloc | apply pw_below_drewN | apply below_drew1 | refine below_set ?_ GE5.out) | exact HB.out)⟩⟩
       ·rw [if_neg c13] at H
        exact absurd H (by simp)
      ·rw [if_neg c12] at H
       exact absurd H (by simp)
     ·rw [if_neg c11] at H
      exact absurd H (by simp)
    ·rw [if_neg c10] at H
     have c10b0 : decide (0 ≤ x8_1) = false := decide_eq_false c10
     clear c10
     have HC21 := Aside0.mk H
     clear H
     go_upto_region 11 with (fail)
     go_cut [56] (fun v56 wc => ∃ (kq : Nat) (x56_20 : Bool), v56 = .bool x56_20 ∧ Aside0 (law13_RoomShares.j1 kq a1 t2 x56_20 = some r) ∧ Aside0 (kq ≤ k1) ∧ Aside0 (Kd.R k31 31 wc w.heap.size (fun _ => True) (.slice Ao9 t2.length co9) t2) ∧ Aside0 (wc.heap[gb5]? = some (.cells #[.int .i64 x6000_1, .int .i64 x6001_1, .int .i64 x6002_1] 27 (0, 0))) ∧ Aside0 (Below w.heap.size w wc))
     case first =>
      have H := HC21.out
      clear HC21
      replace H := Option.bind_eq_some_iff.mp H
      obtain ⟨⟨t14, t15, t16⟩, A220, H⟩ := H
      replace H : (if (!(t14 == x6000_1) || (!(t15 == x6001_1) || (!(t16 == x6002_1)))) = true then (law13_RoomShares.j1 k1 a1 t2 true) else ((room_Share.f k1 t2 ([] : List ByteArray)).bind fun bt17 => (if (!(bt17.1 == 0) || (!(bt17.2.1 == 0) || (!(bt17.2.2 == 0)))) = true then (law13_RoomShares.j1 k1 a1 t2 true) else ((room_Share.f k1 t2 (([(⟨#[110, 111, 110, 101]⟩ : ByteArray)] : List ByteArray))).bind fun bt23 => (law13_RoomShares.j1 k1 a1 t2 (!(bt23.1 == 0) || (!(bt23.2.1 == 0) || (!(bt23.2.2 == 0))))))))) = some r := H
      have A22 := Aside0.mk A220
      clear A220
      by_cases c23 : (!(t14 == x6000_1) || (!(t15 == x6001_1) || (!(t16 == x6002_1)))) = true
      ·rw [if_pos c23] at H
       have c23b0 : (!(t14 == x6000_1) || (!(t15 == x6001_1) || (!(t16 == x6002_1)))) = true := c23
       clear c23
       (first | rw [c23b0] | (simp only [i64_w, i32_w]; rw [c23b0]) | skip)
       have H' := Aside0.mk H
       clear H
       try go_wp2
       have n0_ := Aside0.mk (Kd.R_drew HO_5.out)
       have n1_ := Aside0.mk (Kd.R_drew HO_6.out)
       have n2_ := Aside0.mk (blk_drew BK5.out)
       have n3_ := Aside0.mk (below_drew1 HB.out)
       clear HO_5
       clear HO_6
       clear BK5
       clear HB
       have HO_5 := n0_
       have HO_6 := n1_
       have BK5 := n2_
       have HB := n3_
       clear n0_ n1_ n2_ n3_
       obtain ⟨Ao25, co25, eo25⟩ := Kd.R_slice HO_6.out
       (first | subst eo25 | (injection eo25 with f1_ f2_ f3_; have f4_ := f1_.symm; have f5_ := f3_.symm; clear f1_ f2_ f3_; subst f4_; subst f5_))
       refine start_ (n := 18) (S := fun w' => w'.cell? ⟨gb5, 0, none⟩ = some (.int .i64 x6000_1) ∧ w'.cell? ⟨gb5, 1, none⟩ = some (.int .i64 x6001_1) ∧ w'.cell? ⟨gb5, 2, none⟩ = some (.int .i64 x6002_1)) (ds := []) #[false, false, false, false, false, false, false, false, false, false, false, false, false, false, false, false, false, false] (by kernel_rfl) rfl rfl ⟨(blk_cell BK5.out 0).trans rfl, (blk_cell BK5.out 1).trans rfl, (blk_cell BK5.out 2).trans rfl⟩ (fun hHeld => ?_); refine with_tabW law13_RoomShares.tab11 law13_RoomShares.bits11 (fun HT_ HW_ => ?_)
       generalize wr.drew = w24 at HO_5 HO_6 BK5 HB hHeld ⊢
       refine pure_ (i := 0) (N := some 39) (v := ?_) (a' := ?_) #[true, false, false, false, false, false, false, false, false, false, false, false, false, false, false, false, false, false] rfl rfl (any_of HT_.out (by kernel_rfl)) (fun _ _ _ h => h) (Or.inl ⟨by rfl, ?_⟩) ?_ ?_
       rotate_left
       ·intro w'
        go_simp
        with_reducible rfl
       rotate_left
       ·simp only [Act.put, List.setIfInBounds_toArray, List.set_cons_zero, List.set_cons_succ, i64_w, i32_w]
        rfl
       refine pure_ (i := 1) (N := some 40) (v := ?_) (a' := ?_) #[true, true, false, false, false, false, false, false, false, false, false, false, false, false, false, false, false, false] rfl rfl (any_of HT_.out (by kernel_rfl)) (fun _ _ _ h => h) (Or.inl ⟨by rfl, ?_⟩) ?_ ?_
       rotate_left
       ·intro w'
        go_simp
        with_reducible rfl
       rotate_left
       ·simp only [Act.put, List.setIfInBounds_toArray, List.set_cons_zero, List.set_cons_succ, i64_w, i32_w]
        rfl
       refine take_ (i := 3) (N := some 42) (v := ?_) (a' := ?_) #[true, true, false, true, false, false, false, false, false, false, false, false, false, false, false, false, false, false] rfl rfl (take_ofW HT_.out HW_.out (by kernel_rfl)) (fun _ _ _ h => h) (Or.inl ⟨by rfl, ?_⟩) hHeld ?_ ?_
       rotate_left
       ·rintro w' ⟨s0, s1, s2⟩
        go_simp
        with_reducible rfl
       rotate_left
       ·simp only [Act.put, List.setIfInBounds_toArray, List.set_cons_zero, List.set_cons_succ, i64_w, i32_w]
        rfl
       refine one_ (i := 2) (N := some 41) #[true, true, true, true, false, false, false, false, false, false, false, false, false, false, false, false, false, false] rfl rfl (one_of HT_.out (by kernel_rfl)) (by decide) (fun K hK => ?_)
       refine goes_ Try.func74 (by kernel_rfl) rfl #[.slice Ao9 t2.length co9, .slice Ao25 x6_1.length co25] (by rfl) rfl rfl (by (try simp only [List.map_toArray, List.map_cons, List.map_nil]); first | done | rfl | (simp only [List.length_drop, List.length_take]; rfl)) ?_
       with_reducible refine (room_Share.calls k1 _ _ t2 _ _ x6_1 t14 t15 t16 _ ?side1 ?side2 ?side3 ?side4 A22.out).mono ?_
       (case side1 => repeat (first | exact (Kd.R_reads' HO_5.out).2.2 | (with_reducible refine Kd.C_alloc ?_ _) | (with_reducible refine Kd.C_drewN ?_ _) | (with_reducible refine Kd.C_drew ?_)))
       (case side2 => exact (Kd.R_reads' HO_5.out).2.1)
       (case side3 => repeat (first | exact (Kd.R_reads' HO_6.out).2.2 | (with_reducible refine Kd.C_alloc ?_ _) | (with_reducible refine Kd.C_drewN ?_ _) | (with_reducible refine Kd.C_drew ?_)))
       (case side4 => exact (Kd.R_reads' HO_6.out).2.1)
       rintro e w26 ⟨rfl, hb⟩
       refine ⟨_, rfl, ?_⟩
       have n0_ := Aside0.mk (Kd.R_below (by (with_reducible repeat (first | apply Kd.R_alloc | apply Kd.R_drewN | apply Kd.R_drew)); exact HO_5.out) hb)
       have n1_ := Aside0.mk (Kd.R_below (by (with_reducible repeat (first | apply Kd.R_alloc | apply Kd.R_drewN | apply Kd.R_drew)); exact HO_6.out) hb)
       have n2_ := Aside0.mk (blk_below (g := gb5) (o := .cells #[.int .i64 x6000_1, .int .i64 x6001_1, .int .i64 x6002_1] 27 (0, 0)) (by (with_reducible repeat (first | refine blk_drewN ?_ _ | refine blk_drew ?_ | refine blk_alloc ?_ _)); exact BK5.out) hb)
       have n3_ := Aside0.mk (below_step (by repeat (first | (with_reducible first | exact HB.out | apply below_alloc | apply pw_below_drewN | apply below_drew1 | refine below_set ?_ GE5.out) | exact HB.out)) hb)
       clear HO_5
       clear HO_6
       clear BK5
       clear HB
       have HO_5 := n0_
       have HO_6 := n1_
       have BK5 := n2_
       have HB := n3_
       clear n0_ n1_ n2_ n3_
       (try clear hb)
       (try clear hb2)
       (try clear hk)
       (try clear hi)
       refine hK.out _ _ ⟨(blk_cell BK5.out 0).trans rfl, (blk_cell BK5.out 1).trans rfl, (blk_cell BK5.out 2).trans rfl⟩ (fun hHeld => ?_)
       clear hK K
       refine norm_ (a' := ?_) ?_ ?_
       rotate_left
       ·show Act.put _ (some 41) _ = _
        simp only [Act.put, List.setIfInBounds_toArray, List.set_cons_zero, List.set_cons_succ, i64_w, i32_w]
        rfl
       refine pure_ (i := 4) (N := some 43) (v := ?_) (a' := ?_) #[true, true, true, true, true, false, false, false, false, false, false, false, false, false, false, false, false, false] rfl rfl (any_of HT_.out (by kernel_rfl)) (fun _ _ _ h => h) (Or.inl ⟨by rfl, ?_⟩) ?_ ?_
       rotate_left
       ·intro w'
        go_simp
        with_reducible rfl
       rotate_left
       ·simp only [Act.put, List.setIfInBounds_toArray, List.set_cons_zero, List.set_cons_succ, i64_w, i32_w]
        rfl
       refine pure_ (i := 5) (N := some 44) (v := ?_) (a' := ?_) #[true, true, true, true, true, true, false, false, false, false, false, false, false, false, false, false, false, false] rfl rfl (any_of HT_.out (by kernel_rfl)) (fun _ _ _ h => h) (Or.inl ⟨by rfl, ?_⟩) ?_ ?_
       rotate_left
       ·intro w'
        go_simp
        with_reducible rfl
       rotate_left
       ·simp only [Act.put, List.setIfInBounds_toArray, List.set_cons_zero, List.set_cons_succ, i64_w, i32_w]
        rfl
       refine pure_ (i := 6) (N := some 45) (v := undef) (a' := ?_) #[true, true, true, true, true, true, true, false, false, false, false, false, false, false, false, false, false, false] rfl rfl (any_of HT_.out (by kernel_rfl)) (fun _ _ _ h => h) (Or.inr ⟨by rfl, rfl⟩) ?_ ?_
       rotate_left
       ·simp only [Act.put, List.setIfInBounds_toArray, List.set_cons_zero, List.set_cons_succ, i64_w, i32_w]
        rfl
       refine pure_ (i := 7) (N := some 46) (v := undef) (a' := ?_) #[true, true, true, true, true, true, true, true, false, false, false, false, false, false, false, false, false, false] rfl rfl (any_of HT_.out (by kernel_rfl)) (fun _ _ _ h => h) (Or.inr ⟨by rfl, rfl⟩) ?_ ?_
       rotate_left
       ·simp only [Act.put, List.setIfInBounds_toArray, List.set_cons_zero, List.set_cons_succ, i64_w, i32_w]
        rfl
       refine pure_ (i := 8) (N := some 47) (v := undef) (a' := ?_) #[true, true, true, true, true, true, true, true, true, false, false, false, false, false, false, false, false, false] rfl rfl (any_of HT_.out (by kernel_rfl)) (fun _ _ _ h => h) (Or.inr ⟨by rfl, rfl⟩) ?_ ?_
       rotate_left
       ·simp only [Act.put, List.setIfInBounds_toArray, List.set_cons_zero, List.set_cons_succ, i64_w, i32_w]
        rfl
       refine pure_ (i := 9) (N := some 48) (v := undef) (a' := ?_) #[true, true, true, true, true, true, true, true, true, true, false, false, false, false, false, false, false, false] rfl rfl (any_of HT_.out (by kernel_rfl)) (fun _ _ _ h => h) (Or.inr ⟨by rfl, rfl⟩) ?_ ?_
       rotate_left
       ·simp only [Act.put, List.setIfInBounds_toArray, List.set_cons_zero, List.set_cons_succ, i64_w, i32_w]
        rfl
       refine pure_ (i := 10) (N := some 49) (v := ?_) (a' := ?_) #[true, true, true, true, true, true, true, true, true, true, true, false, false, false, false, false, false, false] rfl rfl (any_of HT_.out (by kernel_rfl)) (fun _ _ _ h => h) (Or.inl ⟨by rfl, ?_⟩) ?_ ?_
       rotate_left
       ·intro w'
        go_simp
        with_reducible rfl
       rotate_left
       ·simp only [Act.put, List.setIfInBounds_toArray, List.set_cons_zero, List.set_cons_succ, i64_w, i32_w]
        rfl
       refine pure_ (i := 11) (N := some 50) (v := ?_) (a' := ?_) #[true, true, true, true, true, true, true, true, true, true, true, true, false, false, false, false, false, false] rfl rfl (any_of HT_.out (by kernel_rfl)) (fun _ _ _ h => h) (Or.inl ⟨by rfl, ?_⟩) ?_ ?_
       rotate_left
       ·intro w'
        go_simp
        with_reducible rfl
       rotate_left
       ·simp only [Act.put, List.setIfInBounds_toArray, List.set_cons_zero, List.set_cons_succ, i64_w, i32_w]
        rfl
       refine pure_ (i := 12) (N := some 51) (v := undef) (a' := ?_) #[true, true, true, true, true, true, true, true, true, true, true, true, true, false, false, false, false, false] rfl rfl (any_of HT_.out (by kernel_rfl)) (fun _ _ _ h => h) (Or.inr ⟨by rfl, rfl⟩) ?_ ?_
       rotate_left
       ·simp only [Act.put, List.setIfInBounds_toArray, List.set_cons_zero, List.set_cons_succ, i64_w, i32_w]
        rfl
       refine pure_ (i := 13) (N := some 52) (v := undef) (a' := ?_) #[true, true, true, true, true, true, true, true, true, true, true, true, true, true, false, false, false, false] rfl rfl (any_of HT_.out (by kernel_rfl)) (fun _ _ _ h => h) (Or.inr ⟨by rfl, rfl⟩) ?_ ?_
       rotate_left
       ·simp only [Act.put, List.setIfInBounds_toArray, List.set_cons_zero, List.set_cons_succ, i64_w, i32_w]
        rfl
       refine pure_ (i := 14) (N := some 53) (v := undef) (a' := ?_) #[true, true, true, true, true, true, true, true, true, true, true, true, true, true, true, false, false, false] rfl rfl (any_of HT_.out (by kernel_rfl)) (fun _ _ _ h => h) (Or.inr ⟨by rfl, rfl⟩) ?_ ?_
       rotate_left
       ·simp only [Act.put, List.setIfInBounds_toArray, List.set_cons_zero, List.set_cons_succ, i64_w, i32_w]
        rfl
       refine pure_ (i := 15) (N := some 54) (v := undef) (a' := ?_) #[true, true, true, true, true, true, true, true, true, true, true, true, true, true, true, true, false, false] rfl rfl (any_of HT_.out (by kernel_rfl)) (fun _ _ _ h => h) (Or.inr ⟨by rfl, rfl⟩) ?_ ?_
       rotate_left
       ·simp only [Act.put, List.setIfInBounds_toArray, List.set_cons_zero, List.set_cons_succ, i64_w, i32_w]
        rfl
       refine pure_ (i := 16) (N := some 55) (v := undef) (a' := ?_) #[true, true, true, true, true, true, true, true, true, true, true, true, true, true, true, true, true, false] rfl rfl (any_of HT_.out (by kernel_rfl)) (fun _ _ _ h => h) (Or.inr ⟨by rfl, rfl⟩) ?_ ?_
       rotate_left
       ·simp only [Act.put, List.setIfInBounds_toArray, List.set_cons_zero, List.set_cons_succ, i64_w, i32_w]
        rfl
       refine pure_ (i := 17) (N := some 56) (v := ?_) (a' := ?_) #[true, true, true, true, true, true, true, true, true, true, true, true, true, true, true, true, true, true] rfl rfl (any_of HT_.out (by kernel_rfl)) (fun _ _ _ h => h) (Or.inl ⟨by rfl, ?_⟩) ?_ ?_
       rotate_left
       ·intro w'
        go_simp
        with_reducible rfl
       rotate_left
       ·simp only [Act.put, List.setIfInBounds_toArray, List.set_cons_zero, List.set_cons_succ, i64_w, i32_w]
        rfl
       refine done_ (done_of HT_.out (by kernel_rfl)) ?_
       try go_wp2
       go_meet
       case rel => exact ⟨_, (true), (by first | rfl | (simp; done) | (simp [*]; done)), H', ⟨by have := HK1.out; first | omega | exact Nat.le_refl _⟩, ⟨by (with_reducible repeat (first | apply Kd.R_alloc | apply Kd.R_drewN | apply Kd.R_drew)); exact HO_5.out⟩, ⟨by (with_reducible repeat (first | refine blk_drewN ?_ _ | refine blk_drew ?_ | refine blk_alloc ?_ _)); exact BK5.out⟩, ⟨by repeat (first | (with_reducible first | exact HB.out | apply below_alloc | apply pw_below_drewN | apply below_drew1 | refine below_set ?_ GE5.out) | exact HB.out)⟩⟩
      ·rw [if_neg c23] at H
       have c23b0 : (!(t14 == x6000_1) || (!(t15 == x6001_1) || (!(t16 == x6002_1)))) = false := by simpa using c23
       clear c23
       (first | rw [c23b0] | (simp only [i64_w, i32_w]; rw [c23b0]) | skip)
       replace H := Option.bind_eq_some_iff.mp H
       obtain ⟨⟨t17, t18, t19⟩, A270, H⟩ := H
       replace H : (if (!(t17 == 0) || (!(t18 == 0) || (!(t19 == 0)))) = true then (law13_RoomShares.j1 k1 a1 t2 true) else ((room_Share.f k1 t2 (([(⟨#[110, 111, 110, 101]⟩ : ByteArray)] : List ByteArray))).bind fun bt23 => (law13_RoomShares.j1 k1 a1 t2 (!(bt23.1 == 0) || (!(bt23.2.1 == 0) || (!(bt23.2.2 == 0))))))) = some r := H
       have A27 := Aside0.mk A270
       clear A270
       by_cases c28 : (!(t17 == 0) || (!(t18 == 0) || (!(t19 == 0)))) = true
       ·rw [if_pos c28] at H
        have c28b0 : (!(t17 == 0) || (!(t18 == 0) || (!(t19 == 0)))) = true := c28
        clear c28
        have H' := Aside0.mk H
        clear H
        try go_wp2
        have n0_ := Aside0.mk (Kd.R_drew HO_5.out)
        have n1_ := Aside0.mk (Kd.R_drew HO_6.out)
        have n2_ := Aside0.mk (blk_drew BK5.out)
        have n3_ := Aside0.mk (below_drew1 HB.out)
        clear HO_5
        clear HO_6
        clear BK5
        clear HB
        have HO_5 := n0_
        have HO_6 := n1_
        have BK5 := n2_
        have HB := n3_
        clear n0_ n1_ n2_ n3_
        obtain ⟨Ao30, co30, eo30⟩ := Kd.R_slice HO_6.out
        (first | subst eo30 | (injection eo30 with f1_ f2_ f3_; have f4_ := f1_.symm; have f5_ := f3_.symm; clear f1_ f2_ f3_; subst f4_; subst f5_))
        refine start_ (n := 18) (S := fun w' => w'.cell? ⟨gb5, 0, none⟩ = some (.int .i64 x6000_1) ∧ w'.cell? ⟨gb5, 1, none⟩ = some (.int .i64 x6001_1) ∧ w'.cell? ⟨gb5, 2, none⟩ = some (.int .i64 x6002_1)) (ds := []) #[false, false, false, false, false, false, false, false, false, false, false, false, false, false, false, false, false, false] (by kernel_rfl) rfl rfl ⟨(blk_cell BK5.out 0).trans rfl, (blk_cell BK5.out 1).trans rfl, (blk_cell BK5.out 2).trans rfl⟩ (fun hHeld => ?_); refine with_tabW law13_RoomShares.tab11 law13_RoomShares.bits11 (fun HT_ HW_ => ?_)
        generalize wr.drew = w29 at HO_5 HO_6 BK5 HB hHeld ⊢
        refine pure_ (i := 0) (N := some 39) (v := ?_) (a' := ?_) #[true, false, false, false, false, false, false, false, false, false, false, false, false, false, false, false, false, false] rfl rfl (any_of HT_.out (by kernel_rfl)) (fun _ _ _ h => h) (Or.inl ⟨by rfl, ?_⟩) ?_ ?_
        rotate_left
        ·intro w'
         go_simp
         with_reducible rfl
        rotate_left
        ·simp only [Act.put, List.setIfInBounds_toArray, List.set_cons_zero, List.set_cons_succ, i64_w, i32_w]
         rfl
        refine pure_ (i := 1) (N := some 40) (v := ?_) (a' := ?_) #[true, true, false, false, false, false, false, false, false, false, false, false, false, false, false, false, false, false] rfl rfl (any_of HT_.out (by kernel_rfl)) (fun _ _ _ h => h) (Or.inl ⟨by rfl, ?_⟩) ?_ ?_
        rotate_left
        ·intro w'
         go_simp
         with_reducible rfl
        rotate_left
        ·simp only [Act.put, List.setIfInBounds_toArray, List.set_cons_zero, List.set_cons_succ, i64_w, i32_w]
         rfl
        refine take_ (i := 3) (N := some 42) (v := ?_) (a' := ?_) #[true, true, false, true, false, false, false, false, false, false, false, false, false, false, false, false, false, false] rfl rfl (take_ofW HT_.out HW_.out (by kernel_rfl)) (fun _ _ _ h => h) (Or.inl ⟨by rfl, ?_⟩) hHeld ?_ ?_
        rotate_left
        ·rintro w' ⟨s0, s1, s2⟩
         go_simp
         with_reducible rfl
        rotate_left
        ·simp only [Act.put, List.setIfInBounds_toArray, List.set_cons_zero, List.set_cons_succ, i64_w, i32_w]
         rfl
        refine one_ (i := 2) (N := some 41) #[true, true, true, true, false, false, false, false, false, false, false, false, false, false, false, false, false, false] rfl rfl (one_of HT_.out (by kernel_rfl)) (by decide) (fun K hK => ?_)
        refine goes_ Try.func74 (by kernel_rfl) rfl #[.slice Ao9 t2.length co9, .slice Ao30 x6_1.length co30] (by rfl) rfl rfl (by (try simp only [List.map_toArray, List.map_cons, List.map_nil]); first | done | rfl | (simp only [List.length_drop, List.length_take]; rfl)) ?_
        with_reducible refine (room_Share.calls k1 _ _ t2 _ _ x6_1 t14 t15 t16 _ ?side1 ?side2 ?side3 ?side4 A22.out).mono ?_
        (case side1 => repeat (first | exact (Kd.R_reads' HO_5.out).2.2 | (with_reducible refine Kd.C_alloc ?_ _) | (with_reducible refine Kd.C_drewN ?_ _) | (with_reducible refine Kd.C_drew ?_)))
        (case side2 => exact (Kd.R_reads' HO_5.out).2.1)
        (case side3 => repeat (first | exact (Kd.R_reads' HO_6.out).2.2 | (with_reducible refine Kd.C_alloc ?_ _) | (with_reducible refine Kd.C_drewN ?_ _) | (with_reducible refine Kd.C_drew ?_)))
        (case side4 => exact (Kd.R_reads' HO_6.out).2.1)
        rintro e w31 ⟨rfl, hb⟩
        refine ⟨_, rfl, ?_⟩
        have n0_ := Aside0.mk (Kd.R_below (by (with_reducible repeat (first | apply Kd.R_alloc | apply Kd.R_drewN | apply Kd.R_drew)); exact HO_5.out) hb)
        have n1_ := Aside0.mk (Kd.R_below (by (with_reducible repeat (first | apply Kd.R_alloc | apply Kd.R_drewN | apply Kd.R_drew)); exact HO_6.out) hb)
        have n2_ := Aside0.mk (blk_below (g := gb5) (o := .cells #[.int .i64 x6000_1, .int .i64 x6001_1, .int .i64 x6002_1] 27 (0, 0)) (by (with_reducible repeat (first | refine blk_drewN ?_ _ | refine blk_drew ?_ | refine blk_alloc ?_ _)); exact BK5.out) hb)
        have n3_ := Aside0.mk (below_step (by repeat (first | (with_reducible first | exact HB.out | apply below_alloc | apply pw_below_drewN | apply below_drew1 | refine below_set ?_ GE5.out) | exact HB.out)) hb)
        clear HO_5
        clear HO_6
        clear BK5
        clear HB
        have HO_5 := n0_
        have HO_6 := n1_
        have BK5 := n2_
        have HB := n3_
        clear n0_ n1_ n2_ n3_
        (try clear hb)
        (try clear hb2)
        (try clear hk)
        (try clear hi)
        refine hK.out _ _ ⟨(blk_cell BK5.out 0).trans rfl, (blk_cell BK5.out 1).trans rfl, (blk_cell BK5.out 2).trans rfl⟩ (fun hHeld => ?_)
        clear hK K
        refine norm_ (a' := ?_) ?_ ?_
        rotate_left
        ·show Act.put _ (some 41) _ = _
         simp only [Act.put, List.setIfInBounds_toArray, List.set_cons_zero, List.set_cons_succ, i64_w, i32_w]
         rfl
        refine pure_ (i := 4) (N := some 43) (v := ?_) (a' := ?_) #[true, true, true, true, true, false, false, false, false, false, false, false, false, false, false, false, false, false] rfl rfl (any_of HT_.out (by kernel_rfl)) (fun _ _ _ h => h) (Or.inl ⟨by rfl, ?_⟩) ?_ ?_
        rotate_left
        ·intro w'
         go_simp
         with_reducible rfl
        rotate_left
        ·simp only [Act.put, List.setIfInBounds_toArray, List.set_cons_zero, List.set_cons_succ, i64_w, i32_w]
         rfl
        refine pure_ (i := 5) (N := some 44) (v := ?_) (a' := ?_) #[true, true, true, true, true, true, false, false, false, false, false, false, false, false, false, false, false, false] rfl rfl (any_of HT_.out (by kernel_rfl)) (fun _ _ _ h => h) (Or.inl ⟨by rfl, ?_⟩) ?_ ?_
        rotate_left
        ·intro w'
         go_simp
         with_reducible rfl
        rotate_left
        ·simp only [Act.put, List.setIfInBounds_toArray, List.set_cons_zero, List.set_cons_succ, i64_w, i32_w]
         rfl
        refine pure_ (i := 6) (N := some 45) (v := ?_) (a' := ?_) #[true, true, true, true, true, true, true, false, false, false, false, false, false, false, false, false, false, false] rfl rfl (any_of HT_.out (by kernel_rfl)) (fun _ _ _ h => h) (Or.inl ⟨by rfl, ?_⟩) ?_ ?_
        rotate_left
        ·intro w'
         go_simp
         with_reducible rfl
        rotate_left
        ·simp only [Act.put, List.setIfInBounds_toArray, List.set_cons_zero, List.set_cons_succ, i64_w, i32_w]
         rfl
        refine pure_ (i := 8) (N := some 47) (v := ?_) (a' := ?_) #[true, true, true, true, true, true, true, false, true, false, false, false, false, false, false, false, false, false] rfl rfl (any_of HT_.out (by kernel_rfl)) (fun _ _ _ h => h) (Or.inl ⟨by rfl, ?_⟩) ?_ ?_
        rotate_left
        ·intro w'
         go_simp
         with_reducible rfl
        rotate_left
        ·simp only [Act.put, List.setIfInBounds_toArray, List.set_cons_zero, List.set_cons_succ, i64_w, i32_w]
         rfl
        refine one_ (i := 7) (N := some 46) #[true, true, true, true, true, true, true, true, true, false, false, false, false, false, false, false, false, false] rfl rfl (one_of HT_.out (by kernel_rfl)) (by decide) (fun K hK => ?_)
        refine goes_ Try.func74 (by kernel_rfl) rfl #[.slice Ao9 t2.length co9, .slice none 0 0] (by rfl) rfl rfl (by (try simp only [List.map_toArray, List.map_cons, List.map_nil]); first | done | rfl | (simp only [List.length_drop, List.length_take]; rfl)) ?_
        refine (room_Share.calls k1 _ _ t2 _ _ ([] : List ByteArray) t17 t18 t19 _ ?side1 ?side2 ?side3 ?side4 A27.out).mono ?_
        (case side1 => repeat (first | exact (Kd.R_reads' HO_5.out).2.2 | (with_reducible refine Kd.C_alloc ?_ _) | (with_reducible refine Kd.C_drewN ?_ _) | (with_reducible refine Kd.C_drew ?_)))
        (case side2 => exact (Kd.R_reads' HO_5.out).2.1)
        (case side3 => exact Kd.C_nil _ _)
        (case side4 => exact Nat.le_refl _)
        rintro e w32 ⟨rfl, hb⟩
        refine ⟨_, rfl, ?_⟩
        have n0_ := Aside0.mk (Kd.R_below (by (with_reducible repeat (first | apply Kd.R_alloc | apply Kd.R_drewN | apply Kd.R_drew)); exact HO_5.out) hb)
        have n1_ := Aside0.mk (Kd.R_below (by (with_reducible repeat (first | apply Kd.R_alloc | apply Kd.R_drewN | apply Kd.R_drew)); exact HO_6.out) hb)
        have n2_ := Aside0.mk (blk_below (g := gb5) (o := .cells #[.int .i64 x6000_1, .int .i64 x6001_1, .int .i64 x6002_1] 27 (0, 0)) (by (with_reducible repeat (first | refine blk_drewN ?_ _ | refine blk_drew ?_ | refine blk_alloc ?_ _)); exact BK5.out) hb)
        have n3_ := Aside0.mk (below_step (by repeat (first | (with_reducible first | exact HB.out | apply below_alloc | apply pw_below_drewN | apply below_drew1 | refine below_set ?_ GE5.out) | exact HB.out)) hb)
        clear HO_5
        clear HO_6
        clear BK5
        clear HB
        have HO_5 := n0_
        have HO_6 := n1_
        have BK5 := n2_
        have HB := n3_
        clear n0_ n1_ n2_ n3_
        (try clear hb)
        (try clear hb2)
        (try clear hk)
        (try clear hi)
        refine hK.out _ _ ⟨(blk_cell BK5.out 0).trans rfl, (blk_cell BK5.out 1).trans rfl, (blk_cell BK5.out 2).trans rfl⟩ (fun hHeld => ?_)
        clear hK K
        refine norm_ (a' := ?_) ?_ ?_
        rotate_left
        ·show Act.put _ (some 46) _ = _
         simp only [Act.put, List.setIfInBounds_toArray, List.set_cons_zero, List.set_cons_succ, i64_w, i32_w]
         rfl
        refine pure_ (i := 9) (N := some 48) (v := ?_) (a' := ?_) #[true, true, true, true, true, true, true, true, true, true, false, false, false, false, false, false, false, false] rfl rfl (any_of HT_.out (by kernel_rfl)) (fun _ _ _ h => h) (Or.inl ⟨by rfl, ?_⟩) ?_ ?_
        rotate_left
        ·intro w'
         go_simp
         with_reducible rfl
        rotate_left
        ·simp only [Act.put, List.setIfInBounds_toArray, List.set_cons_zero, List.set_cons_succ, i64_w, i32_w]
         rfl
        refine pure_ (i := 10) (N := some 49) (v := ?_) (a' := ?_) #[true, true, true, true, true, true, true, true, true, true, true, false, false, false, false, false, false, false] rfl rfl (any_of HT_.out (by kernel_rfl)) (fun _ _ _ h => h) (Or.inl ⟨by rfl, ?_⟩) ?_ ?_
        rotate_left
        ·intro w'
         go_simp
         with_reducible rfl
        rotate_left
        ·simp only [Act.put, List.setIfInBounds_toArray, List.set_cons_zero, List.set_cons_succ, i64_w, i32_w]
         rfl
        refine pure_ (i := 11) (N := some 50) (v := ?_) (a' := ?_) #[true, true, true, true, true, true, true, true, true, true, true, true, false, false, false, false, false, false] rfl rfl (any_of HT_.out (by kernel_rfl)) (fun _ _ _ h => h) (Or.inl ⟨by rfl, ?_⟩) ?_ ?_
        rotate_left
        ·intro w'
         go_simp
         with_reducible rfl
        rotate_left
        ·simp only [Act.put, List.setIfInBounds_toArray, List.set_cons_zero, List.set_cons_succ, i64_w, i32_w]
         rfl
        refine pure_ (i := 12) (N := some 51) (v := undef) (a' := ?_) #[true, true, true, true, true, true, true, true, true, true, true, true, true, false, false, false, false, false] rfl rfl (any_of HT_.out (by kernel_rfl)) (fun _ _ _ h => h) (Or.inr ⟨by rfl, rfl⟩) ?_ ?_
        rotate_left
        ·simp only [Act.put, List.setIfInBounds_toArray, List.set_cons_zero, List.set_cons_succ, i64_w, i32_w]
         rfl
        refine pure_ (i := 13) (N := some 52) (v := undef) (a' := ?_) #[true, true, true, true, true, true, true, true, true, true, true, true, true, true, false, false, false, false] rfl rfl (any_of HT_.out (by kernel_rfl)) (fun _ _ _ h => h) (Or.inr ⟨by rfl, rfl⟩) ?_ ?_
        rotate_left
        ·simp only [Act.put, List.setIfInBounds_toArray, List.set_cons_zero, List.set_cons_succ, i64_w, i32_w]
         rfl
        refine pure_ (i := 14) (N := some 53) (v := undef) (a' := ?_) #[true, true, true, true, true, true, true, true, true, true, true, true, true, true, true, false, false, false] rfl rfl (any_of HT_.out (by kernel_rfl)) (fun _ _ _ h => h) (Or.inr ⟨by rfl, rfl⟩) ?_ ?_
        rotate_left
        ·simp only [Act.put, List.setIfInBounds_toArray, List.set_cons_zero, List.set_cons_succ, i64_w, i32_w]
         rfl
        refine pure_ (i := 15) (N := some 54) (v := undef) (a' := ?_) #[true, true, true, true, true, true, true, true, true, true, true, true, true, true, true, true, false, false] rfl rfl (any_of HT_.out (by kernel_rfl)) (fun _ _ _ h => h) (Or.inr ⟨by rfl, rfl⟩) ?_ ?_
        rotate_left
        ·simp only [Act.put, List.setIfInBounds_toArray, List.set_cons_zero, List.set_cons_succ, i64_w, i32_w]
         rfl
        refine pure_ (i := 16) (N := some 55) (v := undef) (a' := ?_) #[true, true, true, true, true, true, true, true, true, true, true, true, true, true, true, true, true, false] rfl rfl (any_of HT_.out (by kernel_rfl)) (fun _ _ _ h => h) (Or.inr ⟨by rfl, rfl⟩) ?_ ?_
        rotate_left
        ·simp only [Act.put, List.setIfInBounds_toArray, List.set_cons_zero, List.set_cons_succ, i64_w, i32_w]
         rfl
        refine pure_ (i := 17) (N := some 56) (v := ?_) (a' := ?_) #[true, true, true, true, true, true, true, true, true, true, true, true, true, true, true, true, true, true] rfl rfl (any_of HT_.out (by kernel_rfl)) (fun _ _ _ h => h) (Or.inl ⟨by rfl, ?_⟩) ?_ ?_
        rotate_left
        ·intro w'
         go_simp
         with_reducible rfl
        rotate_left
        ·simp only [Act.put, List.setIfInBounds_toArray, List.set_cons_zero, List.set_cons_succ, i64_w, i32_w]
         rfl
        refine done_ (done_of HT_.out (by kernel_rfl)) ?_
        try go_wp2
        go_meet
        case rel => exact ⟨_, (true), (by first | rfl | (simp; done) | (simp [*]; done)), H', ⟨by have := HK1.out; first | omega | exact Nat.le_refl _⟩, ⟨by (with_reducible repeat (first | apply Kd.R_alloc | apply Kd.R_drewN | apply Kd.R_drew)); exact HO_5.out⟩, ⟨by (with_reducible repeat (first | refine blk_drewN ?_ _ | refine blk_drew ?_ | refine blk_alloc ?_ _)); exact BK5.out⟩, ⟨by repeat (first | (with_reducible first | exact HB.out | apply below_alloc | apply pw_below_drewN | apply below_drew1 | refine below_set ?_ GE5.out) | exact HB.out)⟩⟩
       ·rw [if_neg c28] at H
        have c28b0 : (!(t17 == 0) || (!(t18 == 0) || (!(t19 == 0)))) = false := by simpa using c28
        clear c28
        obtain ⟨y20, hy20⟩ : ∃ y_ : List ByteArray, y_ = (([(⟨#[110, 111, 110, 101]⟩ : ByteArray)] : List ByteArray)) := ⟨_, rfl⟩
        replace H : ((room_Share.f k1 t2 y20).bind fun bt23 => (law13_RoomShares.j1 k1 a1 t2 (!(bt23.1 == 0) || (!(bt23.2.1 == 0) || (!(bt23.2.2 == 0)))))) = some r := by first | (rw [hy20]; with_reducible exact H) | (have H2_ := (Option.bind_some _ _).symm.trans H; rw [hy20]; with_reducible exact H2_) | (have H2_ := (Option.bind_some _ _).symm.trans H; with_reducible exact H2_) | with_reducible exact H | (rw [hy20]; exact H) | exact H
        have Ny20 := Aside0.mk hy20
        clear hy20
        replace H := Option.bind_eq_some_iff.mp H
        obtain ⟨⟨t23, t24, t25⟩, A330, H⟩ := H
        replace H : (law13_RoomShares.j1 k1 a1 t2 (!(t23 == 0) || (!(t24 == 0) || (!(t25 == 0))))) = some r := H
        have A33 := Aside0.mk A330
        clear A330
        have H' := Aside0.mk H
        clear H
        try go_wp2
        have n0_ := Aside0.mk (Kd.R_drew HO_5.out)
        have n1_ := Aside0.mk (Kd.R_drew HO_6.out)
        have n2_ := Aside0.mk (blk_drew BK5.out)
        have n3_ := Aside0.mk (below_drew1 HB.out)
        clear HO_5
        clear HO_6
        clear BK5
        clear HB
        have HO_5 := n0_
        have HO_6 := n1_
        have BK5 := n2_
        have HB := n3_
        clear n0_ n1_ n2_ n3_
        obtain ⟨Ao35, co35, eo35⟩ := Kd.R_slice HO_6.out
        (first | subst eo35 | (injection eo35 with f1_ f2_ f3_; have f4_ := f1_.symm; have f5_ := f3_.symm; clear f1_ f2_ f3_; subst f4_; subst f5_))
        refine start_ (n := 18) (S := fun w' => w'.cell? ⟨gb5, 0, none⟩ = some (.int .i64 x6000_1) ∧ w'.cell? ⟨gb5, 1, none⟩ = some (.int .i64 x6001_1) ∧ w'.cell? ⟨gb5, 2, none⟩ = some (.int .i64 x6002_1)) (ds := []) #[false, false, false, false, false, false, false, false, false, false, false, false, false, false, false, false, false, false] (by kernel_rfl) rfl rfl ⟨(blk_cell BK5.out 0).trans rfl, (blk_cell BK5.out 1).trans rfl, (blk_cell BK5.out 2).trans rfl⟩ (fun hHeld => ?_); refine with_tabW law13_RoomShares.tab11 law13_RoomShares.bits11 (fun HT_ HW_ => ?_)
        generalize wr.drew = w34 at HO_5 HO_6 BK5 HB hHeld ⊢
        refine pure_ (i := 0) (N := some 39) (v := ?_) (a' := ?_) #[true, false, false, false, false, false, false, false, false, false, false, false, false, false, false, false, false, false] rfl rfl (any_of HT_.out (by kernel_rfl)) (fun _ _ _ h => h) (Or.inl ⟨by rfl, ?_⟩) ?_ ?_
        rotate_left
        ·intro w'
         go_simp
         with_reducible rfl
        rotate_left
        ·simp only [Act.put, List.setIfInBounds_toArray, List.set_cons_zero, List.set_cons_succ, i64_w, i32_w]
         rfl
        refine pure_ (i := 1) (N := some 40) (v := ?_) (a' := ?_) #[true, true, false, false, false, false, false, false, false, false, false, false, false, false, false, false, false, false] rfl rfl (any_of HT_.out (by kernel_rfl)) (fun _ _ _ h => h) (Or.inl ⟨by rfl, ?_⟩) ?_ ?_
        rotate_left
        ·intro w'
         go_simp
         with_reducible rfl
        rotate_left
        ·simp only [Act.put, List.setIfInBounds_toArray, List.set_cons_zero, List.set_cons_succ, i64_w, i32_w]
         rfl
        refine take_ (i := 3) (N := some 42) (v := ?_) (a' := ?_) #[true, true, false, true, false, false, false, false, false, false, false, false, false, false, false, false, false, false] rfl rfl (take_ofW HT_.out HW_.out (by kernel_rfl)) (fun _ _ _ h => h) (Or.inl ⟨by rfl, ?_⟩) hHeld ?_ ?_
        rotate_left
        ·rintro w' ⟨s0, s1, s2⟩
         go_simp
         with_reducible rfl
        rotate_left
        ·simp only [Act.put, List.setIfInBounds_toArray, List.set_cons_zero, List.set_cons_succ, i64_w, i32_w]
         rfl
        refine one_ (i := 2) (N := some 41) #[true, true, true, true, false, false, false, false, false, false, false, false, false, false, false, false, false, false] rfl rfl (one_of HT_.out (by kernel_rfl)) (by decide) (fun K hK => ?_)
        refine goes_ Try.func74 (by kernel_rfl) rfl #[.slice Ao9 t2.length co9, .slice Ao35 x6_1.length co35] (by rfl) rfl rfl (by (try simp only [List.map_toArray, List.map_cons, List.map_nil]); first | done | rfl | (simp only [List.length_drop, List.length_take]; rfl)) ?_
        with_reducible refine (room_Share.calls k1 _ _ t2 _ _ x6_1 t14 t15 t16 _ ?side1 ?side2 ?side3 ?side4 A22.out).mono ?_
        (case side1 => repeat (first | exact (Kd.R_reads' HO_5.out).2.2 | (with_reducible refine Kd.C_alloc ?_ _) | (with_reducible refine Kd.C_drewN ?_ _) | (with_reducible refine Kd.C_drew ?_)))
        (case side2 => exact (Kd.R_reads' HO_5.out).2.1)
        (case side3 => repeat (first | exact (Kd.R_reads' HO_6.out).2.2 | (with_reducible refine Kd.C_alloc ?_ _) | (with_reducible refine Kd.C_drewN ?_ _) | (with_reducible refine Kd.C_drew ?_)))
        (case side4 => exact (Kd.R_reads' HO_6.out).2.1)
        rintro e w36 ⟨rfl, hb⟩
        refine ⟨_, rfl, ?_⟩
        have n0_ := Aside0.mk (Kd.R_below (by (with_reducible repeat (first | apply Kd.R_alloc | apply Kd.R_drewN | apply Kd.R_drew)); exact HO_5.out) hb)
        have n1_ := Aside0.mk (Kd.R_below (by (with_reducible repeat (first | apply Kd.R_alloc | apply Kd.R_drewN | apply Kd.R_drew)); exact HO_6.out) hb)
        have n2_ := Aside0.mk (blk_below (g := gb5) (o := .cells #[.int .i64 x6000_1, .int .i64 x6001_1, .int .i64 x6002_1] 27 (0, 0)) (by (with_reducible repeat (first | refine blk_drewN ?_ _ | refine blk_drew ?_ | refine blk_alloc ?_ _)); exact BK5.out) hb)
        have n3_ := Aside0.mk (below_step (by repeat (first | (with_reducible first | exact HB.out | apply below_alloc | apply pw_below_drewN | apply below_drew1 | refine below_set ?_ GE5.out) | exact HB.out)) hb)
        clear HO_5
        clear HO_6
        clear BK5
        clear HB
        have HO_5 := n0_
        have HO_6 := n1_
        have BK5 := n2_
        have HB := n3_
        clear n0_ n1_ n2_ n3_
        (try clear hb)
        (try clear hb2)
        (try clear hk)
        (try clear hi)
        refine hK.out _ _ ⟨(blk_cell BK5.out 0).trans rfl, (blk_cell BK5.out 1).trans rfl, (blk_cell BK5.out 2).trans rfl⟩ (fun hHeld => ?_)
        clear hK K
        refine norm_ (a' := ?_) ?_ ?_
        rotate_left
        ·show Act.put _ (some 41) _ = _
         simp only [Act.put, List.setIfInBounds_toArray, List.set_cons_zero, List.set_cons_succ, i64_w, i32_w]
         rfl
        refine pure_ (i := 4) (N := some 43) (v := ?_) (a' := ?_) #[true, true, true, true, true, false, false, false, false, false, false, false, false, false, false, false, false, false] rfl rfl (any_of HT_.out (by kernel_rfl)) (fun _ _ _ h => h) (Or.inl ⟨by rfl, ?_⟩) ?_ ?_
        rotate_left
        ·intro w'
         go_simp
         with_reducible rfl
        rotate_left
        ·simp only [Act.put, List.setIfInBounds_toArray, List.set_cons_zero, List.set_cons_succ, i64_w, i32_w]
         rfl
        refine pure_ (i := 5) (N := some 44) (v := ?_) (a' := ?_) #[true, true, true, true, true, true, false, false, false, false, false, false, false, false, false, false, false, false] rfl rfl (any_of HT_.out (by kernel_rfl)) (fun _ _ _ h => h) (Or.inl ⟨by rfl, ?_⟩) ?_ ?_
        rotate_left
        ·intro w'
         go_simp
         with_reducible rfl
        rotate_left
        ·simp only [Act.put, List.setIfInBounds_toArray, List.set_cons_zero, List.set_cons_succ, i64_w, i32_w]
         rfl
        refine pure_ (i := 6) (N := some 45) (v := ?_) (a' := ?_) #[true, true, true, true, true, true, true, false, false, false, false, false, false, false, false, false, false, false] rfl rfl (any_of HT_.out (by kernel_rfl)) (fun _ _ _ h => h) (Or.inl ⟨by rfl, ?_⟩) ?_ ?_
        rotate_left
        ·intro w'
         go_simp
         with_reducible rfl
        rotate_left
        ·simp only [Act.put, List.setIfInBounds_toArray, List.set_cons_zero, List.set_cons_succ, i64_w, i32_w]
         rfl
        refine pure_ (i := 8) (N := some 47) (v := ?_) (a' := ?_) #[true, true, true, true, true, true, true, false, true, false, false, false, false, false, false, false, false, false] rfl rfl (any_of HT_.out (by kernel_rfl)) (fun _ _ _ h => h) (Or.inl ⟨by rfl, ?_⟩) ?_ ?_
        rotate_left
        ·intro w'
         go_simp
         with_reducible rfl
        rotate_left
        ·simp only [Act.put, List.setIfInBounds_toArray, List.set_cons_zero, List.set_cons_succ, i64_w, i32_w]
         rfl
        refine one_ (i := 7) (N := some 46) #[true, true, true, true, true, true, true, true, true, false, false, false, false, false, false, false, false, false] rfl rfl (one_of HT_.out (by kernel_rfl)) (by decide) (fun K hK => ?_)
        refine goes_ Try.func74 (by kernel_rfl) rfl #[.slice Ao9 t2.length co9, .slice none 0 0] (by rfl) rfl rfl (by (try simp only [List.map_toArray, List.map_cons, List.map_nil]); first | done | rfl | (simp only [List.length_drop, List.length_take]; rfl)) ?_
        refine (room_Share.calls k1 _ _ t2 _ _ ([] : List ByteArray) t17 t18 t19 _ ?side1 ?side2 ?side3 ?side4 A27.out).mono ?_
        (case side1 => repeat (first | exact (Kd.R_reads' HO_5.out).2.2 | (with_reducible refine Kd.C_alloc ?_ _) | (with_reducible refine Kd.C_drewN ?_ _) | (with_reducible refine Kd.C_drew ?_)))
        (case side2 => exact (Kd.R_reads' HO_5.out).2.1)
        (case side3 => exact Kd.C_nil _ _)
        (case side4 => exact Nat.le_refl _)
        rintro e w37 ⟨rfl, hb⟩
        refine ⟨_, rfl, ?_⟩
        have n0_ := Aside0.mk (Kd.R_below (by (with_reducible repeat (first | apply Kd.R_alloc | apply Kd.R_drewN | apply Kd.R_drew)); exact HO_5.out) hb)
        have n1_ := Aside0.mk (Kd.R_below (by (with_reducible repeat (first | apply Kd.R_alloc | apply Kd.R_drewN | apply Kd.R_drew)); exact HO_6.out) hb)
        have n2_ := Aside0.mk (blk_below (g := gb5) (o := .cells #[.int .i64 x6000_1, .int .i64 x6001_1, .int .i64 x6002_1] 27 (0, 0)) (by (with_reducible repeat (first | refine blk_drewN ?_ _ | refine blk_drew ?_ | refine blk_alloc ?_ _)); exact BK5.out) hb)
        have n3_ := Aside0.mk (below_step (by repeat (first | (with_reducible first | exact HB.out | apply below_alloc | apply pw_below_drewN | apply below_drew1 | refine below_set ?_ GE5.out) | exact HB.out)) hb)
        clear HO_5
        clear HO_6
        clear BK5
        clear HB
        have HO_5 := n0_
        have HO_6 := n1_
        have BK5 := n2_
        have HB := n3_
        clear n0_ n1_ n2_ n3_
        (try clear hb)
        (try clear hb2)
        (try clear hk)
        (try clear hi)
        refine hK.out _ _ ⟨(blk_cell BK5.out 0).trans rfl, (blk_cell BK5.out 1).trans rfl, (blk_cell BK5.out 2).trans rfl⟩ (fun hHeld => ?_)
        clear hK K
        refine norm_ (a' := ?_) ?_ ?_
        rotate_left
        ·show Act.put _ (some 46) _ = _
         simp only [Act.put, List.setIfInBounds_toArray, List.set_cons_zero, List.set_cons_succ, i64_w, i32_w]
         rfl
        refine pure_ (i := 9) (N := some 48) (v := ?_) (a' := ?_) #[true, true, true, true, true, true, true, true, true, true, false, false, false, false, false, false, false, false] rfl rfl (any_of HT_.out (by kernel_rfl)) (fun _ _ _ h => h) (Or.inl ⟨by rfl, ?_⟩) ?_ ?_
        rotate_left
        ·intro w'
         go_simp
         with_reducible rfl
        rotate_left
        ·simp only [Act.put, List.setIfInBounds_toArray, List.set_cons_zero, List.set_cons_succ, i64_w, i32_w]
         rfl
        refine pure_ (i := 10) (N := some 49) (v := ?_) (a' := ?_) #[true, true, true, true, true, true, true, true, true, true, true, false, false, false, false, false, false, false] rfl rfl (any_of HT_.out (by kernel_rfl)) (fun _ _ _ h => h) (Or.inl ⟨by rfl, ?_⟩) ?_ ?_
        rotate_left
        ·intro w'
         go_simp
         with_reducible rfl
        rotate_left
        ·simp only [Act.put, List.setIfInBounds_toArray, List.set_cons_zero, List.set_cons_succ, i64_w, i32_w]
         rfl
        refine pure_ (i := 11) (N := some 50) (v := ?_) (a' := ?_) #[true, true, true, true, true, true, true, true, true, true, true, true, false, false, false, false, false, false] rfl rfl (any_of HT_.out (by kernel_rfl)) (fun _ _ _ h => h) (Or.inl ⟨by rfl, ?_⟩) ?_ ?_
        rotate_left
        ·intro w'
         go_simp
         with_reducible rfl
        rotate_left
        ·simp only [Act.put, List.setIfInBounds_toArray, List.set_cons_zero, List.set_cons_succ, i64_w, i32_w]
         rfl
        refine pure_ (i := 12) (N := some 51) (v := ?_) (a' := ?_) #[true, true, true, true, true, true, true, true, true, true, true, true, true, false, false, false, false, false] rfl rfl (any_of HT_.out (by kernel_rfl)) (fun _ _ _ h => h) (Or.inl ⟨by rfl, ?_⟩) ?_ ?_
        rotate_left
        ·intro w'
         go_simp
         with_reducible rfl
        rotate_left
        ·simp only [Act.put, List.setIfInBounds_toArray, List.set_cons_zero, List.set_cons_succ, i64_w, i32_w]
         rfl
        refine pure_ (i := 15) (N := some 54) (v := ?_) (a' := ?_) #[true, true, true, true, true, true, true, true, true, true, true, true, true, false, false, true, false, false] rfl rfl (any_of HT_.out (by kernel_rfl)) (fun _ _ _ h => h) (Or.inl ⟨by rfl, ?_⟩) ?_ ?_
        rotate_left
        ·intro w'
         go_simp
         with_reducible rfl
        rotate_left
        ·simp only [Act.put, List.setIfInBounds_toArray, List.set_cons_zero, List.set_cons_succ, i64_w, i32_w]
         rfl
        refine one_ (i := 13) (N := some 52) #[true, true, true, true, true, true, true, true, true, true, true, true, true, true, false, true, false, false] rfl rfl (one_of HT_.out (by kernel_rfl)) (by decide) (fun K hK => ?_)
        refine Kd.R_lit_step Kd.string _ 9 ?hg (N := 52) ?hd (xs := ([(⟨#[110, 111, 110, 101]⟩ : ByteArray)] : List ByteArray)) (inner := [.string (⟨#[110, 111, 110, 101]⟩ : ByteArray)]) (ok := fun _ => True) (okp := fun _ => True) ?hr ?hp (fun _ hk => hk) trivial (Below.refl _ _) (Nat.le_refl _) (by simp) ?_; (case hd => rfl); (case hg => rfl); (case hr => first | (go_simp; done) | (go_simp; rfl)); (case hp => exact (Reps.one (show Kd.M Kd.string _ _ _ (⟨#[110, 111, 110, 101]⟩ : ByteArray) [.string (⟨#[110, 111, 110, 101]⟩ : ByteArray)] from rfl) (Reps.none _ _)))
        intro v21 w38 ho39 hb hg_ hnew_
        clear hg_ hnew_
        (first | rw [← Ny20.out] at ho39 | (simp only [Int.reduceToNat] at ho39; rw [← Ny20.out] at ho39))
        have n0_ := Aside0.mk (Kd.R_below (by (with_reducible repeat (first | apply Kd.R_alloc | apply Kd.R_drewN | apply Kd.R_drew)); exact HO_5.out) hb)
        have n1_ := Aside0.mk (Kd.R_elder' (by (with_reducible repeat (first | apply Kd.R_alloc | apply Kd.R_drewN | apply Kd.R_drew)); exact HO_6.out) (Kd.R_base ho39) hb)
        have n2_ := Aside0.mk (Kd.R_lower (Kd.R_new' ho39 (Kd.R_lt (by (with_reducible repeat (first | apply Kd.R_alloc | apply Kd.R_drewN | apply Kd.R_drew)); exact HO_6.out))) (below_size (by repeat (first | (with_reducible first | exact HB.out | apply below_alloc | apply pw_below_drewN | apply below_drew1 | refine below_set ?_ GE5.out) | exact HB.out))))
        have n3_ := Aside0.mk (blk_below (g := gb5) (o := .cells #[.int .i64 x6000_1, .int .i64 x6001_1, .int .i64 x6002_1] 27 (0, 0)) (by (with_reducible repeat (first | refine blk_drewN ?_ _ | refine blk_drew ?_ | refine blk_alloc ?_ _)); exact BK5.out) hb)
        have n4_ := Aside0.mk (below_step (by repeat (first | (with_reducible first | exact HB.out | apply below_alloc | apply pw_below_drewN | apply below_drew1 | refine below_set ?_ GE5.out) | exact HB.out)) hb)
        clear HO_5
        clear HO_6
        clear BK5
        clear HB
        have HO_5 := n0_
        have HO_6 := n1_
        have HO22 := n2_
        have BK5 := n3_
        have HB := n4_
        clear n0_ n1_ n2_ n3_ n4_
        clear hb ho39
        obtain ⟨Ao40, co40, eo40⟩ := Kd.R_slice HO22.out
        (first | subst eo40 | (injection eo40 with f1_ f2_ f3_; have f4_ := f1_.symm; have f5_ := f3_.symm; clear f1_ f2_ f3_; subst f4_; subst f5_))
        refine hK.out _ _ ⟨(blk_cell BK5.out 0).trans rfl, (blk_cell BK5.out 1).trans rfl, (blk_cell BK5.out 2).trans rfl⟩ (fun hHeld => ?_)
        clear hK K
        refine norm_ (a' := ?_) ?_ ?_
        rotate_left
        ·show Act.put _ (some 52) _ = _
         simp only [Act.put, List.setIfInBounds_toArray, List.set_cons_zero, List.set_cons_succ, i64_w, i32_w]
         rfl
        refine one_ (i := 14) (N := some 53) #[true, true, true, true, true, true, true, true, true, true, true, true, true, true, true, true, false, false] rfl rfl (one_of HT_.out (by kernel_rfl)) (by decide) (fun K hK => ?_)
        refine goes_ Try.func74 (by kernel_rfl) rfl #[.slice Ao9 t2.length co9, .slice Ao40 y20.length co40] (by rfl) rfl rfl (by (try simp only [List.map_toArray, List.map_cons, List.map_nil]); first | done | rfl | (simp only [List.length_drop, List.length_take]; rfl)) ?_
        with_reducible refine (room_Share.calls k1 _ _ t2 _ _ y20 t23 t24 t25 _ ?side1 ?side2 ?side3 ?side4 A33.out).mono ?_
        (case side1 => repeat (first | exact (Kd.R_reads' HO_5.out).2.2 | (with_reducible refine Kd.C_alloc ?_ _) | (with_reducible refine Kd.C_drewN ?_ _) | (with_reducible refine Kd.C_drew ?_)))
        (case side2 => exact (Kd.R_reads' HO_5.out).2.1)
        (case side3 => repeat (first | exact (Kd.R_reads' HO22.out).2.2 | (with_reducible refine Kd.C_alloc ?_ _) | (with_reducible refine Kd.C_drewN ?_ _) | (with_reducible refine Kd.C_drew ?_)))
        (case side4 => exact (Kd.R_reads' HO22.out).2.1)
        rintro e w41 ⟨rfl, hb⟩
        refine ⟨_, rfl, ?_⟩
        have n0_ := Aside0.mk (Kd.R_below (by (with_reducible repeat (first | apply Kd.R_alloc | apply Kd.R_drewN | apply Kd.R_drew)); exact HO_5.out) hb)
        have n1_ := Aside0.mk (Kd.R_below (by (with_reducible repeat (first | apply Kd.R_alloc | apply Kd.R_drewN | apply Kd.R_drew)); exact HO_6.out) hb)
        have n2_ := Aside0.mk (Kd.R_below (by (with_reducible repeat (first | apply Kd.R_alloc | apply Kd.R_drewN | apply Kd.R_drew)); exact HO22.out) hb)
        have n3_ := Aside0.mk (blk_below (g := gb5) (o := .cells #[.int .i64 x6000_1, .int .i64 x6001_1, .int .i64 x6002_1] 27 (0, 0)) (by (with_reducible repeat (first | refine blk_drewN ?_ _ | refine blk_drew ?_ | refine blk_alloc ?_ _)); exact BK5.out) hb)
        have n4_ := Aside0.mk (below_step (by repeat (first | (with_reducible first | exact HB.out | apply below_alloc | apply pw_below_drewN | apply below_drew1 | refine below_set ?_ GE5.out) | exact HB.out)) hb)
        clear HO_5
        clear HO_6
        clear HO22
        clear BK5
        clear HB
        have HO_5 := n0_
        have HO_6 := n1_
        have HO22 := n2_
        have BK5 := n3_
        have HB := n4_
        clear n0_ n1_ n2_ n3_ n4_
        (try clear hb)
        (try clear hb2)
        (try clear hk)
        (try clear hi)
        refine hK.out _ _ ⟨(blk_cell BK5.out 0).trans rfl, (blk_cell BK5.out 1).trans rfl, (blk_cell BK5.out 2).trans rfl⟩ (fun hHeld => ?_)
        clear hK K
        refine norm_ (a' := ?_) ?_ ?_
        rotate_left
        ·show Act.put _ (some 53) _ = _
         simp only [Act.put, List.setIfInBounds_toArray, List.set_cons_zero, List.set_cons_succ, i64_w, i32_w]
         rfl
        refine pure_ (i := 16) (N := some 55) (v := ?_) (a' := ?_) #[true, true, true, true, true, true, true, true, true, true, true, true, true, true, true, true, true, false] rfl rfl (any_of HT_.out (by kernel_rfl)) (fun _ _ _ h => h) (Or.inl ⟨by rfl, ?_⟩) ?_ ?_
        rotate_left
        ·intro w'
         go_simp
         with_reducible rfl
        rotate_left
        ·simp only [Act.put, List.setIfInBounds_toArray, List.set_cons_zero, List.set_cons_succ, i64_w, i32_w]
         rfl
        refine pure_ (i := 17) (N := some 56) (v := ?_) (a' := ?_) #[true, true, true, true, true, true, true, true, true, true, true, true, true, true, true, true, true, true] rfl rfl (any_of HT_.out (by kernel_rfl)) (fun _ _ _ h => h) (Or.inl ⟨by rfl, ?_⟩) ?_ ?_
        rotate_left
        ·intro w'
         go_simp
         with_reducible rfl
        rotate_left
        ·simp only [Act.put, List.setIfInBounds_toArray, List.set_cons_zero, List.set_cons_succ, i64_w, i32_w]
         rfl
        refine done_ (done_of HT_.out (by kernel_rfl)) ?_
        try go_wp2
        go_meet
        case rel => exact ⟨_, ((!(t23 == 0) || (!(t24 == 0) || (!(t25 == 0))))), (by first | rfl | (simp; done) | (simp [*]; done)), H', ⟨by have := HK1.out; first | omega | exact Nat.le_refl _⟩, ⟨by (with_reducible repeat (first | apply Kd.R_alloc | apply Kd.R_drewN | apply Kd.R_drew)); exact HO_5.out⟩, ⟨by (with_reducible repeat (first | refine blk_drewN ?_ _ | refine blk_drew ?_ | refine blk_alloc ?_ _)); exact BK5.out⟩, ⟨by repeat (first | (with_reducible first | exact HB.out | apply below_alloc | apply pw_below_drewN | apply below_drew1 | refine below_set ?_ GE5.out) | exact HB.out)⟩⟩
     case rest =>
      clear HC21
      try clear c2
      try clear p2
      try clear c7
      try clear c23
      try clear c23b0
      try clear c28
      try clear c28b0
      obtain ⟨kq, x56_20, rfl, HA, HJ20, HO_5, BK5, HB⟩ := hcut
      cases kq with
      | zero => exact absurd HA.out (by simp [law13_RoomShares.j1])
      | succ kj20 =>
       have H := HA.out
       clear HA
       simp only [law13_RoomShares.j1] at H
       by_cases c42 : x56_20 = true
       ·subst c42
        have H1 : (some false) = some r := by rw [if_pos rfl] at H; exact H
        clear H
        have H := H1
        clear H1
        obtain rfl := Option.some.inj H
        go_wp2
        go_ret
        exact ⟨by first | rfl | (simp [errW_none, errW_some] <;> rfl) | (simp [*, errW_none, errW_some] <;> rfl), by repeat (first | (with_reducible first | exact HB.out | apply below_alloc | apply pw_below_drewN | apply below_drew1 | refine below_set ?_ GE5.out) | exact HB.out)⟩
       ·replace c42 := Bool.eq_false_iff.mpr c42
        subst c42
        have H1 : (if (t2.length : Int) = 0 then ((law13_awake.f kj20).bind fun t26 => (some t26)) else (if 0 ≤ (Int.tmod (wrap64 (a1)) (t2.length : Int)) then (if (Int.tmod (wrap64 (a1)) (t2.length : Int)) < (t2.length : Int) then ((some (([] : List ByteArray) : List ByteArray)).bind fun y29 => ((r10_Below.f kj20 t2 ((rd_T31 t2 (Int.tmod (wrap64 (a1)) (t2.length : Int))).f0)).bind fun t32 => (if y29.length + t32.length < 8796093022208 then ((some (y29 ++ t32 : List ByteArray)).bind fun y35 => ((some (([(rd_T31 t2 (Int.tmod (wrap64 (a1)) (t2.length : Int))).f0, (rd_T31 t2 (Int.tmod (wrap64 (a1)) (t2.length : Int))).f0] : List ByteArray) : List ByteArray)).bind fun y38 => (if y35.length + y38.length < 8796093022208 then ((room_Share.f kj20 t2 (y35 ++ y38)).bind fun bt44 => (if (bt44.1 == ((rd_T31 t2 (Int.tmod (wrap64 (a1)) (t2.length : Int))).f4.f0) && (bt44.2.1 == ((rd_T31 t2 (Int.tmod (wrap64 (a1)) (t2.length : Int))).f4.f1) && (bt44.2.2 == ((rd_T31 t2 (Int.tmod (wrap64 (a1)) (t2.length : Int))).f4.f2)))) = true then ((law13_awake.f kj20).bind fun t47 => (some t47)) else (some false))) else (none)))) else (none)))) else (none)) else (none))) = some r := by rw [if_neg (show ¬ (false = true) by decide)] at H; exact H
        clear H
        have H := H1
        clear H1
        by_cases c43 : (t2.length : Int) = 0
        ·rw [if_pos c43] at H
         have c43b0 : ((t2.length : Int) == 0) = true := beq_iff_eq.mpr c43
         have c43b1 : ((t2.length : Int) != 0) = false := bne_eq_false_iff_eq.mpr c43
         clear c43
         replace H := Option.bind_eq_some_iff.mp H
         obtain ⟨t26, A440, H⟩ := H
         replace H : (some t26) = some r := H
         have A44 := Aside0.mk A440
         clear A440
         obtain rfl := Option.some.inj H
         go_wp2_with (first | ((with_reducible refine gate_callee (f := 31) rfl ?_); refine goesL_ (some 60) rfl rfl Try.func31 (by kernel_rfl) rfl #[] rfl (by (try simp only [List.map_toArray, List.map_cons, List.map_nil]); first | done | rfl | (simp only [List.length_drop, List.length_take]; rfl)) ?_; (with_reducible refine (law13_awake.calls kj20  t26 _ A44.out).mono ?_); rintro e w45 ⟨rfl, hb⟩; refine ⟨_, rfl, ?_⟩; have n0_ := Aside0.mk (Kd.R_below (by (with_reducible repeat (first | apply Kd.R_alloc | apply Kd.R_drewN | apply Kd.R_drew)); exact HO_5.out) hb); have n1_ := Aside0.mk (blk_below (g := gb5) (o := .cells #[.int .i64 x6000_1, .int .i64 x6001_1, .int .i64 x6002_1] 27 (0, 0)) (by (with_reducible repeat (first | refine blk_drewN ?_ _ | refine blk_drew ?_ | refine blk_alloc ?_ _)); exact BK5.out) hb); have n2_ := Aside0.mk (below_step (by repeat (first | (with_reducible first | exact HB.out | apply below_alloc | apply pw_below_drewN | apply below_drew1 | refine below_set ?_ GE5.out) | exact HB.out)) hb); clear HO_5; clear BK5; clear HB; have HO_5 := n0_; have BK5 := n1_; have HB := n2_; clear n0_ n1_ n2_; (try clear hb); (try clear hb2); (try clear hk); (try clear hi)))
         go_ret
         exact ⟨by first | rfl | (simp [errW_none, errW_some] <;> rfl) | (simp [*, errW_none, errW_some] <;> rfl), by repeat (first | (with_reducible first | exact HB.out | apply below_alloc | apply pw_below_drewN | apply below_drew1 | refine below_set ?_ GE5.out) | exact HB.out)⟩
        ·rw [if_neg c43] at H
         have c43b0 : ((t2.length : Int) == 0) = false := beq_eq_false_iff_ne.mpr c43
         have c43b1 : ((t2.length : Int) != 0) = true := bne_iff_ne.mpr c43
         have c43b2 : ¬ (t2 = []) := fun h_ => c43 (by rw [h_]; rfl)
         obtain ⟨ji46, hji46⟩ : ∃ j_ : Int, (Int.tmod (wrap64 (a1)) (t2.length : Int)) = j_ := ⟨_, rfl⟩
         replace H : (if 0 ≤ (ji46) then (if (ji46) < (t2.length : Int) then ((some (([] : List ByteArray) : List ByteArray)).bind fun y29 => ((r10_Below.f kj20 t2 ((rd_T31 t2 (ji46)).f0)).bind fun t32 => (if y29.length + t32.length < 8796093022208 then ((some (y29 ++ t32 : List ByteArray)).bind fun y35 => ((some (([(rd_T31 t2 (ji46)).f0, (rd_T31 t2 (ji46)).f0] : List ByteArray) : List ByteArray)).bind fun y38 => (if y35.length + y38.length < 8796093022208 then ((room_Share.f kj20 t2 (y35 ++ y38)).bind fun bt44 => (if (bt44.1 == ((rd_T31 t2 (ji46)).f4.f0) && (bt44.2.1 == ((rd_T31 t2 (ji46)).f4.f1) && (bt44.2.2 == ((rd_T31 t2 (ji46)).f4.f2)))) = true then ((law13_awake.f kj20).bind fun t47 => (some t47)) else (some false))) else (none)))) else (none)))) else (none)) else (none)) = some r := by first | (rw [hji46] at H; exact H) | (simp only [hji46] at H ⊢; exact H)
         by_cases c47 : 0 ≤ (ji46)
         ·rw [if_pos c47] at H
          have c47b0 : decide (0 ≤ (ji46)) = true := decide_eq_true c47
          clear c47
          by_cases c48 : (ji46) < (t2.length : Int)
          ·rw [if_pos c48] at H
           have c48b0 : decide ((ji46) < (t2.length : Int)) = true := decide_eq_true c48
           clear c48
           obtain ⟨y29, hy29⟩ : ∃ y_ : List ByteArray, y_ = (([] : List ByteArray)) := ⟨_, rfl⟩
           replace H : ((r10_Below.f kj20 t2 ((rd_T31 t2 (ji46)).f0)).bind fun t32 => (if y29.length + t32.length < 8796093022208 then ((some (y29 ++ t32 : List ByteArray)).bind fun y35 => ((some (([(rd_T31 t2 (ji46)).f0, (rd_T31 t2 (ji46)).f0] : List ByteArray) : List ByteArray)).bind fun y38 => (if y35.length + y38.length < 8796093022208 then ((room_Share.f kj20 t2 (y35 ++ y38)).bind fun bt44 => (if (bt44.1 == ((rd_T31 t2 (ji46)).f4.f0) && (bt44.2.1 == ((rd_T31 t2 (ji46)).f4.f1) && (bt44.2.2 == ((rd_T31 t2 (ji46)).f4.f2)))) = true then ((law13_awake.f kj20).bind fun t47 => (some t47)) else (some false))) else (none)))) else (none))) = some r := by first | (rw [hy29]; with_reducible exact H) | (have H2_ := (Option.bind_some _ _).symm.trans H; rw [hy29]; with_reducible exact H2_) | (have H2_ := (Option.bind_some _ _).symm.trans H; with_reducible exact H2_) | with_reducible exact H | (rw [hy29]; exact H) | exact H
           have Ny29 := Aside0.mk hy29
           clear hy29
           replace H := Option.bind_eq_some_iff.mp H
           obtain ⟨t32, A490, H⟩ := H
           replace H : (if y29.length + t32.length < 8796093022208 then ((some (y29 ++ t32 : List ByteArray)).bind fun y35 => ((some (([(rd_T31 t2 (ji46)).f0, (rd_T31 t2 (ji46)).f0] : List ByteArray) : List ByteArray)).bind fun y38 => (if y35.length + y38.length < 8796093022208 then ((room_Share.f kj20 t2 (y35 ++ y38)).bind fun bt44 => (if (bt44.1 == ((rd_T31 t2 (ji46)).f4.f0) && (bt44.2.1 == ((rd_T31 t2 (ji46)).f4.f1) && (bt44.2.2 == ((rd_T31 t2 (ji46)).f4.f2)))) = true then ((law13_awake.f kj20).bind fun t47 => (some t47)) else (some false))) else (none)))) else (none)) = some r := H
           have A49 := Aside0.mk A490
           clear A490
           by_cases c50 : y29.length + t32.length < 8796093022208
           ·rw [if_pos c50] at H
            have LMc50 := Aside0.mk c50
            clear c50
            obtain ⟨y35, hy35⟩ : ∃ y_ : List ByteArray, y_ = (y29 ++ t32) := ⟨_, rfl⟩
            replace H : ((some (([(rd_T31 t2 (ji46)).f0, (rd_T31 t2 (ji46)).f0] : List ByteArray) : List ByteArray)).bind fun y38 => (if y35.length + y38.length < 8796093022208 then ((room_Share.f kj20 t2 (y35 ++ y38)).bind fun bt44 => (if (bt44.1 == ((rd_T31 t2 (ji46)).f4.f0) && (bt44.2.1 == ((rd_T31 t2 (ji46)).f4.f1) && (bt44.2.2 == ((rd_T31 t2 (ji46)).f4.f2)))) = true then ((law13_awake.f kj20).bind fun t47 => (some t47)) else (some false))) else (none))) = some r := by first | (rw [hy35]; with_reducible exact H) | (have H2_ := (Option.bind_some _ _).symm.trans H; rw [hy35]; with_reducible exact H2_) | (have H2_ := (Option.bind_some _ _).symm.trans H; with_reducible exact H2_) | with_reducible exact H | (rw [hy35]; exact H) | exact H
            have Ny35 := Aside0.mk hy35
            clear hy35
            obtain ⟨y38, hy38⟩ : ∃ y_ : List ByteArray, y_ = (([(rd_T31 t2 (ji46)).f0, (rd_T31 t2 (ji46)).f0] : List ByteArray)) := ⟨_, rfl⟩
            replace H : (if y35.length + y38.length < 8796093022208 then ((room_Share.f kj20 t2 (y35 ++ y38)).bind fun bt44 => (if (bt44.1 == ((rd_T31 t2 (ji46)).f4.f0) && (bt44.2.1 == ((rd_T31 t2 (ji46)).f4.f1) && (bt44.2.2 == ((rd_T31 t2 (ji46)).f4.f2)))) = true then ((law13_awake.f kj20).bind fun t47 => (some t47)) else (some false))) else (none)) = some r := by first | (rw [hy38]; with_reducible exact H) | (have H2_ := (Option.bind_some _ _).symm.trans H; rw [hy38]; with_reducible exact H2_) | (have H2_ := (Option.bind_some _ _).symm.trans H; with_reducible exact H2_) | with_reducible exact H | (rw [hy38]; exact H) | exact H
            have Ny38 := Aside0.mk hy38
            clear hy38
            by_cases c51 : y35.length + y38.length < 8796093022208
            ·rw [if_pos c51] at H
             have LMc51 := Aside0.mk c51
             clear c51
             obtain ⟨y41, hy41⟩ : ∃ y_ : List ByteArray, y_ = (y35 ++ y38) := ⟨_, rfl⟩
             replace H : ((room_Share.f kj20 t2 y41).bind fun bt44 => (if (bt44.1 == ((rd_T31 t2 (ji46)).f4.f0) && (bt44.2.1 == ((rd_T31 t2 (ji46)).f4.f1) && (bt44.2.2 == ((rd_T31 t2 (ji46)).f4.f2)))) = true then ((law13_awake.f kj20).bind fun t47 => (some t47)) else (some false))) = some r := by first | (rw [hy41]; with_reducible exact H) | (have H2_ := (Option.bind_some _ _).symm.trans H; rw [hy41]; with_reducible exact H2_) | (have H2_ := (Option.bind_some _ _).symm.trans H; with_reducible exact H2_) | with_reducible exact H | (rw [hy41]; exact H) | exact H
             have Ny41 := Aside0.mk hy41
             clear hy41
             replace H := Option.bind_eq_some_iff.mp H
             obtain ⟨⟨t44, t45, t46⟩, A520, H⟩ := H
             replace H : (if (t44 == ((rd_T31 t2 (ji46)).f4.f0) && (t45 == ((rd_T31 t2 (ji46)).f4.f1) && (t46 == ((rd_T31 t2 (ji46)).f4.f2)))) = true then ((law13_awake.f kj20).bind fun t47 => (some t47)) else (some false)) = some r := H
             have A52 := Aside0.mk A520
             clear A520
             by_cases c53 : (t44 == ((rd_T31 t2 (ji46)).f4.f0) && (t45 == ((rd_T31 t2 (ji46)).f4.f1) && (t46 == ((rd_T31 t2 (ji46)).f4.f2)))) = true
             ·rw [if_pos c53] at H
              have c53b0 : (t44 == ((rd_T31 t2 (ji46)).f4.f0) && (t45 == ((rd_T31 t2 (ji46)).f4.f1) && (t46 == ((rd_T31 t2 (ji46)).f4.f2)))) = true := c53
              (try (have c53b1 : decide (t44 = ((rd_T31 t2 (ji46)).f4.f0) && (t45 == ((rd_T31 t2 (ji46)).f4.f1) && (t46 == ((rd_T31 t2 (ji46)).f4.f2)))) = true := by simpa using c53))
              (try (have c53b2 : (t44 == ((rd_T31 t2 (ji46)).f4.f0) && (t45 == ((rd_T31 t2 (ji46)).f4.f1) && (t46 == ((rd_T31 t2 (ji46)).f4.f2)))) = true := by simpa using c53))
              clear c53
              replace H := Option.bind_eq_some_iff.mp H
              obtain ⟨t47, A540, H⟩ := H
              replace H : (some t47) = some r := H
              have A54 := Aside0.mk A540
              clear A540
              obtain rfl := Option.some.inj H
              have p27 : 0 ≤ ((ji46) : Int) := of_decide_eq_true (by first | (with_reducible assumption) | assumption)
              have q27 : (ji46) < (t2.length : Int) := of_decide_eq_true (by first | (with_reducible assumption) | assumption)
              obtain ⟨ad27, e27, hx27_0, hx27_1, hx27_2, hx27_3, hx27_4, hx27_5, hx27_6, hx27_7, hx27_8, hx27_9, hx27_10, hx27_11⟩ := at_T31 (Kd.R_reads' HO_5.out).2.2 (ji46) p27 q27
              cases e27
              replace p27 := eq_true p27
              replace q27 := eq_true q27
              try go_wp2_with (first | ((with_reducible refine gate_dst (N := 9) rfl ?_); (try (refine gate_guard (by rfl) ?_; dsimp only)); refine box_event ?hg (N := 9) ?hd (cs := #[.string (⟨#[]⟩ : ByteArray), .string (⟨#[]⟩ : ByteArray), .int .i64 0, .int .i64 0, .int .i64 0, .int .i64 0, .int .i64 0, .int .i64 0, .int .i64 0, .int .i64 0, .int .i64 0, .int .i64 0]) (t := 31) ?hr ?_; (case hd => rfl); (case hg => rfl); (case hr => first | (go_simp; done) | (go_simp; rfl)); intro gb28 hg w55 hbox hb; have n0_ := Aside0.mk (Kd.R_below (Kd.R_elderB (by (with_reducible repeat (first | apply Kd.R_alloc | apply Kd.R_drewN | apply Kd.R_drew)); exact HO_5.out) gb28 (Nat.le_of_eq hg.symm)) hb); have n1_ := Aside0.mk (blk_below (g := gb5) (o := .cells #[.int .i64 x6000_1, .int .i64 x6001_1, .int .i64 x6002_1] 27 (0, 0)) (by (with_reducible repeat (first | refine blk_drewN ?_ _ | refine blk_drew ?_ | refine blk_alloc ?_ _)); exact BK5.out) hb); have n2_ := Aside0.mk (below_step (by repeat (first | (with_reducible first | exact HB.out | apply below_alloc | apply pw_below_drewN | apply below_drew1 | refine below_set ?_ GE5.out) | exact HB.out)) hb); have n3_ := Aside0.mk (hbox); have n4_ := Aside0.mk ((by rw [hg]; exact (below_size (by repeat (first | (with_reducible first | exact HB.out | apply below_alloc | apply pw_below_drewN | apply below_drew1 | refine below_set ?_ GE5.out) | exact HB.out))) : w.heap.size ≤ gb28)); have n5_ := Aside0.mk ((by rw [hg]; exact (below_size (by repeat (first | (with_reducible first | exact HB.out | apply below_alloc | apply pw_below_drewN | apply below_drew1 | refine below_set ?_ GE5.out) | exact HB.out))) : w.heap.size ≤ gb28)); have n6_ := Aside0.mk ((by rw [hg]; exact Nat.ne_of_lt (blk_lt (g := gb5) (o := .cells #[.int .i64 x6000_1, .int .i64 x6001_1, .int .i64 x6002_1] 27 (0, 0)) (by (with_reducible repeat (first | refine blk_drewN ?_ _ | refine blk_drew ?_ | refine blk_alloc ?_ _)); exact BK5.out)) : gb5 ≠ gb28)); have n7_ := Aside0.mk ((by rw [hg]; exact Nat.ne_of_gt (blk_lt (g := gb5) (o := .cells #[.int .i64 x6000_1, .int .i64 x6001_1, .int .i64 x6002_1] 27 (0, 0)) (by (with_reducible repeat (first | refine blk_drewN ?_ _ | refine blk_drew ?_ | refine blk_alloc ?_ _)); exact BK5.out)) : gb28 ≠ gb5)); clear HO_5; clear BK5; clear HB; have HO_5 := n0_; have BK5 := n1_; have HB := n2_; have BK28 := n3_; have GW28 := n4_; have GE28 := n5_; have NB5_28 := n6_; have NB28_5 := n7_; clear n0_ n1_ n2_ n3_ n4_ n5_ n6_ n7_; clear hb hbox hg; have hnb56 := NB28_5.out; have hnc56 := NB5_28.out; have hcz57_0 : w55.cell? ⟨gb28, 0, none⟩ = some (.string (⟨#[]⟩ : ByteArray)) := (blk_cell BK28.out 0).trans rfl; have hcz57_1 : w55.cell? ⟨gb28, 1, none⟩ = some (.string (⟨#[]⟩ : ByteArray)) := (blk_cell BK28.out 1).trans rfl; have hcz57_2 : w55.cell? ⟨gb28, 2, none⟩ = some (.int .i64 0) := (blk_cell BK28.out 2).trans rfl; have hcz57_3 : w55.cell? ⟨gb28, 3, none⟩ = some (.int .i64 0) := (blk_cell BK28.out 3).trans rfl; have hcz57_4 : w55.cell? ⟨gb28, 4, none⟩ = some (.int .i64 0) := (blk_cell BK28.out 4).trans rfl; have hcz57_5 : w55.cell? ⟨gb28, 5, none⟩ = some (.int .i64 0) := (blk_cell BK28.out 5).trans rfl; have hcz57_6 : w55.cell? ⟨gb28, 6, none⟩ = some (.int .i64 0) := (blk_cell BK28.out 6).trans rfl; have hcz57_7 : w55.cell? ⟨gb28, 7, none⟩ = some (.int .i64 0) := (blk_cell BK28.out 7).trans rfl; have hcz57_8 : w55.cell? ⟨gb28, 8, none⟩ = some (.int .i64 0) := (blk_cell BK28.out 8).trans rfl; have hcz57_9 : w55.cell? ⟨gb28, 9, none⟩ = some (.int .i64 0) := (blk_cell BK28.out 9).trans rfl; have hcz57_10 : w55.cell? ⟨gb28, 10, none⟩ = some (.int .i64 0) := (blk_cell BK28.out 10).trans rfl; have hcz57_11 : w55.cell? ⟨gb28, 11, none⟩ = some (.int .i64 0) := (blk_cell BK28.out 11).trans rfl; have hfz57_0 := blk_frozen BK28.out 0; have hfz57_1 := blk_frozen BK28.out 1; have hfz57_2 := blk_frozen BK28.out 2; have hfz57_3 := blk_frozen BK28.out 3; have hfz57_4 := blk_frozen BK28.out 4; have hfz57_5 := blk_frozen BK28.out 5; have hfz57_6 := blk_frozen BK28.out 6; have hfz57_7 := blk_frozen BK28.out 7; have hfz57_8 := blk_frozen BK28.out 8; have hfz57_9 := blk_frozen BK28.out 9; have hfz57_10 := blk_frozen BK28.out 10; have hfz57_11 := blk_frozen BK28.out 11) | ((with_reducible refine gate_dst (N := 69) rfl ?_); (try (refine gate_guard (by rfl) ?_; dsimp only)); refine Kd.R_lit Kd.string _ 9 ?hg (N := 69) ?hd (xs := ([] : List ByteArray)) (inner := []) (ok := fun _ => True) (okp := fun _ => True) ?hr ?hp (fun _ hk => hk) trivial (Below.refl _ _) (Nat.le_refl _) (by simp) ?_; (case hd => rfl); (case hg => rfl); (case hr => first | (go_simp; done) | (go_simp; rfl)); (case hp => exact (Reps.none _ _)); intro v30 w58 ho59 hb hg_ hnew_; clear hg_ hnew_; (first | rw [← Ny29.out] at ho59 | (simp only [Int.reduceToNat] at ho59; rw [← Ny29.out] at ho59)); have n0_ := Aside0.mk (Kd.R_below (by (with_reducible repeat (first | apply Kd.R_alloc | apply Kd.R_drewN | apply Kd.R_drew)); exact (Kd.R_mono (Kd.R_far (p := ⟨gb28, 11, none⟩) (Kd.R_far (p := ⟨gb28, 10, none⟩) (Kd.R_far (p := ⟨gb28, 9, none⟩) (Kd.R_far (p := ⟨gb28, 8, none⟩) (Kd.R_far (p := ⟨gb28, 7, none⟩) (Kd.R_far (p := ⟨gb28, 6, none⟩) (Kd.R_far (p := ⟨gb28, 5, none⟩) (Kd.R_far (p := ⟨gb28, 4, none⟩) (Kd.R_far (p := ⟨gb28, 3, none⟩) (Kd.R_far (p := ⟨gb28, 2, none⟩) (Kd.R_far (p := ⟨gb28, 1, none⟩) (Kd.R_far (p := ⟨gb28, 0, none⟩) (Kd.R_mono HO_5.out (fun k_ hk => (⟨hk, hk.2⟩ : _ ∧ k_ ≠ gb28))) (fun _ hk => hk.2) (.string ((rd_T31 t2 (ji46)).f0))) (fun _ hk => hk.2) (.string ((rd_T31 t2 (ji46)).f1))) (fun _ hk => hk.2) (.int .i64 ((rd_T31 t2 (ji46)).f2.f0))) (fun _ hk => hk.2) (.int .i64 ((rd_T31 t2 (ji46)).f2.f1))) (fun _ hk => hk.2) (.int .i64 ((rd_T31 t2 (ji46)).f2.f2))) (fun _ hk => hk.2) (.int .i64 ((rd_T31 t2 (ji46)).f3.f0))) (fun _ hk => hk.2) (.int .i64 ((rd_T31 t2 (ji46)).f3.f1))) (fun _ hk => hk.2) (.int .i64 ((rd_T31 t2 (ji46)).f3.f2))) (fun _ hk => hk.2) (.int .i64 ((rd_T31 t2 (ji46)).f4.f0))) (fun _ hk => hk.2) (.int .i64 ((rd_T31 t2 (ji46)).f4.f1))) (fun _ hk => hk.2) (.int .i64 ((rd_T31 t2 (ji46)).f4.f2))) (fun _ hk => hk.2) (.int .i64 ((rd_T31 t2 (ji46)).f5))) (fun _ h_ => h_.1))) hb); have n1_ := Aside0.mk (Kd.R_lower ho59 (below_size (by repeat (first | (with_reducible first | exact HB.out | apply below_alloc | apply pw_below_drewN | apply below_drew1 | refine below_set ?_ GE5.out | refine below_set ?_ GE28.out) | exact HB.out)))); have n2_ := Aside0.mk (blk_below (g := gb5) (o := .cells #[.int .i64 x6000_1, .int .i64 x6001_1, .int .i64 x6002_1] 27 (0, 0)) (by (with_reducible repeat (first | refine blk_drewN ?_ _ | refine blk_drew ?_ | refine blk_alloc ?_ _)); refine blk_far ?_ NB5_28.out _; (with_reducible repeat (first | refine blk_drewN ?_ _ | refine blk_drew ?_ | refine blk_alloc ?_ _)); refine blk_far ?_ NB5_28.out _; (with_reducible repeat (first | refine blk_drewN ?_ _ | refine blk_drew ?_ | refine blk_alloc ?_ _)); refine blk_far ?_ NB5_28.out _; (with_reducible repeat (first | refine blk_drewN ?_ _ | refine blk_drew ?_ | refine blk_alloc ?_ _)); refine blk_far ?_ NB5_28.out _; (with_reducible repeat (first | refine blk_drewN ?_ _ | refine blk_drew ?_ | refine blk_alloc ?_ _)); refine blk_far ?_ NB5_28.out _; (with_reducible repeat (first | refine blk_drewN ?_ _ | refine blk_drew ?_ | refine blk_alloc ?_ _)); refine blk_far ?_ NB5_28.out _; (with_reducible repeat (first | refine blk_drewN ?_ _ | refine blk_drew ?_ | refine blk_alloc ?_ _)); refine blk_far ?_ NB5_28.out _; (with_reducible repeat (first | refine blk_drewN ?_ _ | refine blk_drew ?_ | refine blk_alloc ?_ _)); refine blk_far ?_ NB5_28.out _; (with_reducible repeat (first | refine blk_drewN ?_ _ | refine blk_drew ?_ | refine blk_alloc ?_ _)); refine blk_far ?_ NB5_28.out _; (with_reducible repeat (first | refine blk_drewN ?_ _ | refine blk_drew ?_ | refine blk_alloc ?_ _)); refine blk_far ?_ NB5_28.out _; (with_reducible repeat (first | refine blk_drewN ?_ _ | refine blk_drew ?_ | refine blk_alloc ?_ _)); refine blk_far ?_ NB5_28.out _; (with_reducible repeat (first | refine blk_drewN ?_ _ | refine blk_drew ?_ | refine blk_alloc ?_ _)); refine blk_far ?_ NB5_28.out _; (with_reducible repeat (first | refine blk_drewN ?_ _ | refine blk_drew ?_ | refine blk_alloc ?_ _)); exact BK5.out) hb); have n3_ := Aside0.mk (blk_below (g := gb28) (o := .cells #[.string ((rd_T31 t2 (ji46)).f0), .string ((rd_T31 t2 (ji46)).f1), .int .i64 ((rd_T31 t2 (ji46)).f2.f0), .int .i64 ((rd_T31 t2 (ji46)).f2.f1), .int .i64 ((rd_T31 t2 (ji46)).f2.f2), .int .i64 ((rd_T31 t2 (ji46)).f3.f0), .int .i64 ((rd_T31 t2 (ji46)).f3.f1), .int .i64 ((rd_T31 t2 (ji46)).f3.f2), .int .i64 ((rd_T31 t2 (ji46)).f4.f0), .int .i64 ((rd_T31 t2 (ji46)).f4.f1), .int .i64 ((rd_T31 t2 (ji46)).f4.f2), .int .i64 ((rd_T31 t2 (ji46)).f5)] 31 (0, 0)) (by (with_reducible repeat (first | refine blk_drewN ?_ _ | refine blk_drew ?_ | refine blk_alloc ?_ _)); refine blk_put (cs := #[.string ((rd_T31 t2 (ji46)).f0), .string ((rd_T31 t2 (ji46)).f1), .int .i64 ((rd_T31 t2 (ji46)).f2.f0), .int .i64 ((rd_T31 t2 (ji46)).f2.f1), .int .i64 ((rd_T31 t2 (ji46)).f2.f2), .int .i64 ((rd_T31 t2 (ji46)).f3.f0), .int .i64 ((rd_T31 t2 (ji46)).f3.f1), .int .i64 ((rd_T31 t2 (ji46)).f3.f2), .int .i64 ((rd_T31 t2 (ji46)).f4.f0), .int .i64 ((rd_T31 t2 (ji46)).f4.f1), .int .i64 ((rd_T31 t2 (ji46)).f4.f2), .int .i64 0]) ?_ 11 _ rfl; (with_reducible repeat (first | refine blk_drewN ?_ _ | refine blk_drew ?_ | refine blk_alloc ?_ _)); refine blk_put (cs := #[.string ((rd_T31 t2 (ji46)).f0), .string ((rd_T31 t2 (ji46)).f1), .int .i64 ((rd_T31 t2 (ji46)).f2.f0), .int .i64 ((rd_T31 t2 (ji46)).f2.f1), .int .i64 ((rd_T31 t2 (ji46)).f2.f2), .int .i64 ((rd_T31 t2 (ji46)).f3.f0), .int .i64 ((rd_T31 t2 (ji46)).f3.f1), .int .i64 ((rd_T31 t2 (ji46)).f3.f2), .int .i64 ((rd_T31 t2 (ji46)).f4.f0), .int .i64 ((rd_T31 t2 (ji46)).f4.f1), .int .i64 0, .int .i64 0]) ?_ 10 _ rfl; (with_reducible repeat (first | refine blk_drewN ?_ _ | refine blk_drew ?_ | refine blk_alloc ?_ _)); refine blk_put (cs := #[.string ((rd_T31 t2 (ji46)).f0), .string ((rd_T31 t2 (ji46)).f1), .int .i64 ((rd_T31 t2 (ji46)).f2.f0), .int .i64 ((rd_T31 t2 (ji46)).f2.f1), .int .i64 ((rd_T31 t2 (ji46)).f2.f2), .int .i64 ((rd_T31 t2 (ji46)).f3.f0), .int .i64 ((rd_T31 t2 (ji46)).f3.f1), .int .i64 ((rd_T31 t2 (ji46)).f3.f2), .int .i64 ((rd_T31 t2 (ji46)).f4.f0), .int .i64 0, .int .i64 0, .int .i64 0]) ?_ 9 _ rfl; (with_reducible repeat (first | refine blk_drewN ?_ _ | refine blk_drew ?_ | refine blk_alloc ?_ _)); refine blk_put (cs := #[.string ((rd_T31 t2 (ji46)).f0), .string ((rd_T31 t2 (ji46)).f1), .int .i64 ((rd_T31 t2 (ji46)).f2.f0), .int .i64 ((rd_T31 t2 (ji46)).f2.f1), .int .i64 ((rd_T31 t2 (ji46)).f2.f2), .int .i64 ((rd_T31 t2 (ji46)).f3.f0), .int .i64 ((rd_T31 t2 (ji46)).f3.f1), .int .i64 ((rd_T31 t2 (ji46)).f3.f2), .int .i64 0, .int .i64 0, .int .i64 0, .int .i64 0]) ?_ 8 _ rfl; (with_reducible repeat (first | refine blk_drewN ?_ _ | refine blk_drew ?_ | refine blk_alloc ?_ _)); refine blk_put (cs := #[.string ((rd_T31 t2 (ji46)).f0), .string ((rd_T31 t2 (ji46)).f1), .int .i64 ((rd_T31 t2 (ji46)).f2.f0), .int .i64 ((rd_T31 t2 (ji46)).f2.f1), .int .i64 ((rd_T31 t2 (ji46)).f2.f2), .int .i64 ((rd_T31 t2 (ji46)).f3.f0), .int .i64 ((rd_T31 t2 (ji46)).f3.f1), .int .i64 0, .int .i64 0, .int .i64 0, .int .i64 0, .int .i64 0]) ?_ 7 _ rfl; (with_reducible repeat (first | refine blk_drewN ?_ _ | refine blk_drew ?_ | refine blk_alloc ?_ _)); refine blk_put (cs := #[.string ((rd_T31 t2 (ji46)).f0), .string ((rd_T31 t2 (ji46)).f1), .int .i64 ((rd_T31 t2 (ji46)).f2.f0), .int .i64 ((rd_T31 t2 (ji46)).f2.f1), .int .i64 ((rd_T31 t2 (ji46)).f2.f2), .int .i64 ((rd_T31 t2 (ji46)).f3.f0), .int .i64 0, .int .i64 0, .int .i64 0, .int .i64 0, .int .i64 0, .int .i64 0]) ?_ 6 _ rfl; (with_reducible repeat (first | refine blk_drewN ?_ _ | refine blk_drew ?_ | refine blk_alloc ?_ _)); refine blk_put (cs := #[.string ((rd_T31 t2 (ji46)).f0), .string ((rd_T31 t2 (ji46)).f1), .int .i64 ((rd_T31 t2 (ji46)).f2.f0), .int .i64 ((rd_T31 t2 (ji46)).f2.f1), .int .i64 ((rd_T31 t2 (ji46)).f2.f2), .int .i64 0, .int .i64 0, .int .i64 0, .int .i64 0, .int .i64 0, .int .i64 0, .int .i64 0]) ?_ 5 _ rfl; (with_reducible repeat (first | refine blk_drewN ?_ _ | refine blk_drew ?_ | refine blk_alloc ?_ _)); refine blk_put (cs := #[.string ((rd_T31 t2 (ji46)).f0), .string ((rd_T31 t2 (ji46)).f1), .int .i64 ((rd_T31 t2 (ji46)).f2.f0), .int .i64 ((rd_T31 t2 (ji46)).f2.f1), .int .i64 0, .int .i64 0, .int .i64 0, .int .i64 0, .int .i64 0, .int .i64 0, .int .i64 0, .int .i64 0]) ?_ 4 _ rfl; (with_reducible repeat (first | refine blk_drewN ?_ _ | refine blk_drew ?_ | refine blk_alloc ?_ _)); refine blk_put (cs := #[.string ((rd_T31 t2 (ji46)).f0), .string ((rd_T31 t2 (ji46)).f1), .int .i64 ((rd_T31 t2 (ji46)).f2.f0), .int .i64 0, .int .i64 0, .int .i64 0, .int .i64 0, .int .i64 0, .int .i64 0, .int .i64 0, .int .i64 0, .int .i64 0]) ?_ 3 _ rfl; (with_reducible repeat (first | refine blk_drewN ?_ _ | refine blk_drew ?_ | refine blk_alloc ?_ _)); refine blk_put (cs := #[.string ((rd_T31 t2 (ji46)).f0), .string ((rd_T31 t2 (ji46)).f1), .int .i64 0, .int .i64 0, .int .i64 0, .int .i64 0, .int .i64 0, .int .i64 0, .int .i64 0, .int .i64 0, .int .i64 0, .int .i64 0]) ?_ 2 _ rfl; (with_reducible repeat (first | refine blk_drewN ?_ _ | refine blk_drew ?_ | refine blk_alloc ?_ _)); refine blk_put (cs := #[.string ((rd_T31 t2 (ji46)).f0), .string (⟨#[]⟩ : ByteArray), .int .i64 0, .int .i64 0, .int .i64 0, .int .i64 0, .int .i64 0, .int .i64 0, .int .i64 0, .int .i64 0, .int .i64 0, .int .i64 0]) ?_ 1 _ rfl; (with_reducible repeat (first | refine blk_drewN ?_ _ | refine blk_drew ?_ | refine blk_alloc ?_ _)); refine blk_put (cs := #[.string (⟨#[]⟩ : ByteArray), .string (⟨#[]⟩ : ByteArray), .int .i64 0, .int .i64 0, .int .i64 0, .int .i64 0, .int .i64 0, .int .i64 0, .int .i64 0, .int .i64 0, .int .i64 0, .int .i64 0]) ?_ 0 _ rfl; (with_reducible repeat (first | refine blk_drewN ?_ _ | refine blk_drew ?_ | refine blk_alloc ?_ _)); exact BK28.out) hb); have n4_ := Aside0.mk (below_step (by repeat (first | (with_reducible first | exact HB.out | apply below_alloc | apply pw_below_drewN | apply below_drew1 | refine below_set ?_ GE5.out | refine below_set ?_ GE28.out) | exact HB.out)) hb); clear HO_5; clear BK5; clear BK28; clear HB; have HO_5 := n0_; have HO31 := n1_; have BK5 := n2_; have BK28 := n3_; have HB := n4_; clear n0_ n1_ n2_ n3_ n4_; clear hb ho59; have hcz60_0 : w58.cell? ⟨gb28, 0, none⟩ = some (.string ((rd_T31 t2 (ji46)).f0)) := (blk_cell BK28.out 0).trans rfl; have hcz60_1 : w58.cell? ⟨gb28, 1, none⟩ = some (.string ((rd_T31 t2 (ji46)).f1)) := (blk_cell BK28.out 1).trans rfl; have hcz60_2 : w58.cell? ⟨gb28, 2, none⟩ = some (.int .i64 ((rd_T31 t2 (ji46)).f2.f0)) := (blk_cell BK28.out 2).trans rfl; have hcz60_3 : w58.cell? ⟨gb28, 3, none⟩ = some (.int .i64 ((rd_T31 t2 (ji46)).f2.f1)) := (blk_cell BK28.out 3).trans rfl; have hcz60_4 : w58.cell? ⟨gb28, 4, none⟩ = some (.int .i64 ((rd_T31 t2 (ji46)).f2.f2)) := (blk_cell BK28.out 4).trans rfl; have hcz60_5 : w58.cell? ⟨gb28, 5, none⟩ = some (.int .i64 ((rd_T31 t2 (ji46)).f3.f0)) := (blk_cell BK28.out 5).trans rfl; have hcz60_6 : w58.cell? ⟨gb28, 6, none⟩ = some (.int .i64 ((rd_T31 t2 (ji46)).f3.f1)) := (blk_cell BK28.out 6).trans rfl; have hcz60_7 : w58.cell? ⟨gb28, 7, none⟩ = some (.int .i64 ((rd_T31 t2 (ji46)).f3.f2)) := (blk_cell BK28.out 7).trans rfl; have hcz60_8 : w58.cell? ⟨gb28, 8, none⟩ = some (.int .i64 ((rd_T31 t2 (ji46)).f4.f0)) := (blk_cell BK28.out 8).trans rfl; have hcz60_9 : w58.cell? ⟨gb28, 9, none⟩ = some (.int .i64 ((rd_T31 t2 (ji46)).f4.f1)) := (blk_cell BK28.out 9).trans rfl; have hcz60_10 : w58.cell? ⟨gb28, 10, none⟩ = some (.int .i64 ((rd_T31 t2 (ji46)).f4.f2)) := (blk_cell BK28.out 10).trans rfl; have hcz60_11 : w58.cell? ⟨gb28, 11, none⟩ = some (.int .i64 ((rd_T31 t2 (ji46)).f5)) := (blk_cell BK28.out 11).trans rfl; have hfz60_0 := blk_frozen BK28.out 0; have hfz60_1 := blk_frozen BK28.out 1; have hfz60_2 := blk_frozen BK28.out 2; have hfz60_3 := blk_frozen BK28.out 3; have hfz60_4 := blk_frozen BK28.out 4; have hfz60_5 := blk_frozen BK28.out 5; have hfz60_6 := blk_frozen BK28.out 6; have hfz60_7 := blk_frozen BK28.out 7; have hfz60_8 := blk_frozen BK28.out 8; have hfz60_9 := blk_frozen BK28.out 9; have hfz60_10 := blk_frozen BK28.out 10; have hfz60_11 := blk_frozen BK28.out 11) | ((with_reducible refine gate_callee (f := 75) rfl ?_); refine goesL_ (some 73) rfl rfl Try.func75 (by kernel_rfl) rfl #[.slice (some ad27) t2.length co9, .string ((rd_T31 t2 (ji46)).f0)] rfl (by (try simp only [List.map_toArray, List.map_cons, List.map_nil]); first | done | (simp only [hji46]; rfl) | rfl | (simp only [List.length_drop, List.length_take]; rfl)) ?_; (with_reducible refine (r10_Below.calls kj20 _ _ t2 ((rd_T31 t2 (ji46)).f0) t32 _ ?side1 ?side2 A49.out).mono ?_); (case side1 => repeat (first | exact (Kd.R_reads' HO_5.out).2.2 | (with_reducible refine Kd.C_alloc ?_ _) | (with_reducible refine Kd.C_drewN ?_ _) | (with_reducible refine Kd.C_drew ?_))); (case side2 => exact (Kd.R_reads' HO_5.out).2.1); rintro e w61 ⟨v33, rfl, ho0, hb⟩; refine ⟨_, rfl, ?_⟩; have n0_ := Aside0.mk (Kd.R_below (by (with_reducible repeat (first | apply Kd.R_alloc | apply Kd.R_drewN | apply Kd.R_drew)); exact HO_5.out) hb); have n1_ := Aside0.mk (Kd.R_elder' (by (with_reducible repeat (first | apply Kd.R_alloc | apply Kd.R_drewN | apply Kd.R_drew)); exact HO31.out) (Kd.R_base ho0) hb); have n2_ := Aside0.mk (Kd.R_lower (Kd.R_new' ho0 (Kd.R_lt (by (with_reducible repeat (first | apply Kd.R_alloc | apply Kd.R_drewN | apply Kd.R_drew)); exact HO31.out))) (below_size (by repeat (first | (with_reducible first | exact HB.out | apply below_alloc | apply pw_below_drewN | apply below_drew1 | refine below_set ?_ GE5.out | refine below_set ?_ GE28.out) | exact HB.out)))); have n3_ := Aside0.mk (blk_below (g := gb5) (o := .cells #[.int .i64 x6000_1, .int .i64 x6001_1, .int .i64 x6002_1] 27 (0, 0)) (by (with_reducible repeat (first | refine blk_drewN ?_ _ | refine blk_drew ?_ | refine blk_alloc ?_ _)); exact BK5.out) hb); have n4_ := Aside0.mk (blk_below (g := gb28) (o := .cells #[.string ((rd_T31 t2 (ji46)).f0), .string ((rd_T31 t2 (ji46)).f1), .int .i64 ((rd_T31 t2 (ji46)).f2.f0), .int .i64 ((rd_T31 t2 (ji46)).f2.f1), .int .i64 ((rd_T31 t2 (ji46)).f2.f2), .int .i64 ((rd_T31 t2 (ji46)).f3.f0), .int .i64 ((rd_T31 t2 (ji46)).f3.f1), .int .i64 ((rd_T31 t2 (ji46)).f3.f2), .int .i64 ((rd_T31 t2 (ji46)).f4.f0), .int .i64 ((rd_T31 t2 (ji46)).f4.f1), .int .i64 ((rd_T31 t2 (ji46)).f4.f2), .int .i64 ((rd_T31 t2 (ji46)).f5)] 31 (0, 0)) (by (with_reducible repeat (first | refine blk_drewN ?_ _ | refine blk_drew ?_ | refine blk_alloc ?_ _)); exact BK28.out) hb); have n5_ := Aside0.mk (below_step (by repeat (first | (with_reducible first | exact HB.out | apply below_alloc | apply pw_below_drewN | apply below_drew1 | refine below_set ?_ GE5.out | refine below_set ?_ GE28.out) | exact HB.out)) hb); clear HO_5; clear HO31; clear BK5; clear BK28; clear HB; have HO_5 := n0_; have HO31 := n1_; have HO34 := n2_; have BK5 := n3_; have BK28 := n4_; have HB := n5_; clear n0_ n1_ n2_ n3_ n4_ n5_; (try clear hb); (try clear hb2); (try clear hk); (try clear hi); (try clear ho0); obtain ⟨Ao63, co63, eo63⟩ := Kd.R_slice HO34.out; subst eo63) | ((with_reducible refine gate_builtin (b := .append) (xs := #[.tmp 69, .tmp 73]) rfl ?_); (try (refine gate_guard (by rfl) ?_; dsimp only)); at_builtin; refine Kd.R_append_rows Kd.string (w0 := w) w.heap.size rfl (.tmp 69) (.tmp 73) 74 9 (.string ⟨#[]⟩) 16 rfl Try.underlying74 info9 rfl (by decide) (by omega) v30 y29 t32 _ _ _ (fun k_ => some k_ ≠ (.slice Ao63 t32.length co63 : Value).ownBlock) (fun _ => False) rfl rfl ?aO ?aR (fun _ _ h => h) (fun _ h => h.elim) ?aF ?aB ?aS ?aL ?_; (case aR => repeat (first | exact (Kd.R_reads' HO34.out).2.2 | (with_reducible refine Kd.C_alloc ?_ _) | (with_reducible refine Kd.C_drewN ?_ _) | (with_reducible refine Kd.C_drew ?_))); (case aB => exact (by repeat (first | (with_reducible first | exact HB.out | apply below_alloc | apply pw_below_drewN | apply below_drew1 | refine below_set ?_ GE5.out | refine below_set ?_ GE28.out) | exact HB.out))); (case aF => exact (fun k_ hk => Kd.fresh' (Kd.R_lt (by (with_reducible repeat (first | apply Kd.R_alloc | apply Kd.R_drewN | apply Kd.R_drew)); exact HO34.out)) k_ hk)); (case aO => exact (by (with_reducible repeat (first | apply Kd.R_alloc | apply Kd.R_drewN | apply Kd.R_drew)); exact Kd.R_mono HO31.out (fun _ hk => hk.2))); (case aS => exact (below_size (by repeat (first | (with_reducible first | exact HB.out | apply below_alloc | apply pw_below_drewN | apply below_drew1 | refine below_set ?_ GE5.out | refine below_set ?_ GE28.out) | exact HB.out)))); (case aL => have := LMc50.out; omega); intro v36 w62 ho hb hg hat; rw [← Ny35.out] at ho; have n0_ := Aside0.mk (Kd.R_over' (by (with_reducible repeat (first | apply Kd.R_alloc | apply Kd.R_drewN | apply Kd.R_drew)); exact HO_5.out) (Kd.R_typed (by (with_reducible repeat (first | apply Kd.R_alloc | apply Kd.R_drewN | apply Kd.R_drew)); exact HO31.out)) (by decide) hg); have n1_ := Aside0.mk (blk_grown (g := gb5) (o := .cells #[.int .i64 x6000_1, .int .i64 x6001_1, .int .i64 x6002_1] 27 (0, 0)) (by (with_reducible repeat (first | refine blk_drewN ?_ _ | refine blk_drew ?_ | refine blk_alloc ?_ _)); exact BK5.out) hg (Kd.R_ne HO31.out BK5.out (by decide))); have n2_ := Aside0.mk (blk_grown (g := gb28) (o := .cells #[.string ((rd_T31 t2 (ji46)).f0), .string ((rd_T31 t2 (ji46)).f1), .int .i64 ((rd_T31 t2 (ji46)).f2.f0), .int .i64 ((rd_T31 t2 (ji46)).f2.f1), .int .i64 ((rd_T31 t2 (ji46)).f2.f2), .int .i64 ((rd_T31 t2 (ji46)).f3.f0), .int .i64 ((rd_T31 t2 (ji46)).f3.f1), .int .i64 ((rd_T31 t2 (ji46)).f3.f2), .int .i64 ((rd_T31 t2 (ji46)).f4.f0), .int .i64 ((rd_T31 t2 (ji46)).f4.f1), .int .i64 ((rd_T31 t2 (ji46)).f4.f2), .int .i64 ((rd_T31 t2 (ji46)).f5)] 31 (0, 0)) (by (with_reducible repeat (first | refine blk_drewN ?_ _ | refine blk_drew ?_ | refine blk_alloc ?_ _)); exact BK28.out) hg (Kd.R_ne HO31.out BK28.out (by decide))); have n3_ := Aside0.mk (Kd.R_after (ok := (fun _ => True)) (by (with_reducible repeat (first | apply Kd.R_alloc | apply Kd.R_drewN | apply Kd.R_drew)); exact HO34.out) hg hat); have n4_ := Aside0.mk (hb); have n5_ := Aside0.mk (ho); clear HO_5; clear BK5; clear BK28; clear HO34; clear HB; clear HO31; have HO_5 := n0_; have BK5 := n1_; have BK28 := n2_; have HO34 := n3_; have HB := n4_; have HO37 := n5_; clear n0_ n1_ n2_ n3_ n4_ n5_; clear ho hb hg hat; have hcz64_0 : w62.cell? ⟨gb28, 0, none⟩ = some (.string ((rd_T31 t2 (ji46)).f0)) := (blk_cell BK28.out 0).trans rfl; have hcz64_1 : w62.cell? ⟨gb28, 1, none⟩ = some (.string ((rd_T31 t2 (ji46)).f1)) := (blk_cell BK28.out 1).trans rfl; have hcz64_2 : w62.cell? ⟨gb28, 2, none⟩ = some (.int .i64 ((rd_T31 t2 (ji46)).f2.f0)) := (blk_cell BK28.out 2).trans rfl; have hcz64_3 : w62.cell? ⟨gb28, 3, none⟩ = some (.int .i64 ((rd_T31 t2 (ji46)).f2.f1)) := (blk_cell BK28.out 3).trans rfl; have hcz64_4 : w62.cell? ⟨gb28, 4, none⟩ = some (.int .i64 ((rd_T31 t2 (ji46)).f2.f2)) := (blk_cell BK28.out 4).trans rfl; have hcz64_5 : w62.cell? ⟨gb28, 5, none⟩ = some (.int .i64 ((rd_T31 t2 (ji46)).f3.f0)) := (blk_cell BK28.out 5).trans rfl; have hcz64_6 : w62.cell? ⟨gb28, 6, none⟩ = some (.int .i64 ((rd_T31 t2 (ji46)).f3.f1)) := (blk_cell BK28.out 6).trans rfl; have hcz64_7 : w62.cell? ⟨gb28, 7, none⟩ = some (.int .i64 ((rd_T31 t2 (ji46)).f3.f2)) := (blk_cell BK28.out 7).trans rfl; have hcz64_8 : w62.cell? ⟨gb28, 8, none⟩ = some (.int .i64 ((rd_T31 t2 (ji46)).f4.f0)) := (blk_cell BK28.out 8).trans rfl; have hcz64_9 : w62.cell? ⟨gb28, 9, none⟩ = some (.int .i64 ((rd_T31 t2 (ji46)).f4.f1)) := (blk_cell BK28.out 9).trans rfl; have hcz64_10 : w62.cell? ⟨gb28, 10, none⟩ = some (.int .i64 ((rd_T31 t2 (ji46)).f4.f2)) := (blk_cell BK28.out 10).trans rfl; have hcz64_11 : w62.cell? ⟨gb28, 11, none⟩ = some (.int .i64 ((rd_T31 t2 (ji46)).f5)) := (blk_cell BK28.out 11).trans rfl; have hfz64_0 := blk_frozen BK28.out 0; have hfz64_1 := blk_frozen BK28.out 1; have hfz64_2 := blk_frozen BK28.out 2; have hfz64_3 := blk_frozen BK28.out 3; have hfz64_4 := blk_frozen BK28.out 4; have hfz64_5 := blk_frozen BK28.out 5; have hfz64_6 := blk_frozen BK28.out 6; have hfz64_7 := blk_frozen BK28.out 7; have hfz64_8 := blk_frozen BK28.out 8; have hfz64_9 := blk_frozen BK28.out 9; have hfz64_10 := blk_frozen BK28.out 10; have hfz64_11 := blk_frozen BK28.out 11) | ((with_reducible refine gate_dst (N := 80) rfl ?_); (try (refine gate_guard (by rfl) ?_; dsimp only)); refine Kd.R_lit Kd.string _ 9 ?hg (N := 80) ?hd (xs := ([(rd_T31 t2 (ji46)).f0, (rd_T31 t2 (ji46)).f0] : List ByteArray)) (inner := [.string ((rd_T31 t2 (ji46)).f0), .string ((rd_T31 t2 (ji46)).f0)]) (ok := fun _ => True) (okp := fun _ => True) ?hr ?hp (fun _ hk => hk) trivial (Below.refl _ _) (Nat.le_refl _) (by simp) ?_; (case hd => rfl); (case hg => rfl); (case hr => first | (go_simp; done) | (go_simp; rfl)); (case hp => exact (Reps.one (show Kd.M Kd.string _ _ _ ((rd_T31 t2 (ji46)).f0) [.string ((rd_T31 t2 (ji46)).f0)] from rfl) (Reps.one (show Kd.M Kd.string _ _ _ ((rd_T31 t2 (ji46)).f0) [.string ((rd_T31 t2 (ji46)).f0)] from rfl) (Reps.none _ _)))); intro v39 w65 ho66 hb hg_ hnew_; clear hg_ hnew_; (first | rw [← Ny38.out] at ho66 | (simp only [Int.reduceToNat] at ho66; rw [← Ny38.out] at ho66)); have n0_ := Aside0.mk (Kd.R_below (by (with_reducible repeat (first | apply Kd.R_alloc | apply Kd.R_drewN | apply Kd.R_drew)); exact HO_5.out) hb); have n1_ := Aside0.mk (Kd.R_elder' (by (with_reducible repeat (first | apply Kd.R_alloc | apply Kd.R_drewN | apply Kd.R_drew)); exact HO34.out) (Kd.R_base ho66) hb); have n2_ := Aside0.mk (Kd.R_elder' (by (with_reducible repeat (first | apply Kd.R_alloc | apply Kd.R_drewN | apply Kd.R_drew)); exact HO37.out) (Kd.R_base ho66) hb); have n3_ := Aside0.mk (Kd.R_lower (Kd.R_new' (Kd.R_new' ho66 (Kd.R_lt (by (with_reducible repeat (first | apply Kd.R_alloc | apply Kd.R_drewN | apply Kd.R_drew)); exact HO34.out))) (Kd.R_lt (by (with_reducible repeat (first | apply Kd.R_alloc | apply Kd.R_drewN | apply Kd.R_drew)); exact HO37.out))) (below_size (by repeat (first | (with_reducible first | exact HB.out | apply below_alloc | apply pw_below_drewN | apply below_drew1 | refine below_set ?_ GE5.out | refine below_set ?_ GE28.out) | exact HB.out)))); have n4_ := Aside0.mk (blk_below (g := gb5) (o := .cells #[.int .i64 x6000_1, .int .i64 x6001_1, .int .i64 x6002_1] 27 (0, 0)) (by (with_reducible repeat (first | refine blk_drewN ?_ _ | refine blk_drew ?_ | refine blk_alloc ?_ _)); exact BK5.out) hb); have n5_ := Aside0.mk (blk_below (g := gb28) (o := .cells #[.string ((rd_T31 t2 (ji46)).f0), .string ((rd_T31 t2 (ji46)).f1), .int .i64 ((rd_T31 t2 (ji46)).f2.f0), .int .i64 ((rd_T31 t2 (ji46)).f2.f1), .int .i64 ((rd_T31 t2 (ji46)).f2.f2), .int .i64 ((rd_T31 t2 (ji46)).f3.f0), .int .i64 ((rd_T31 t2 (ji46)).f3.f1), .int .i64 ((rd_T31 t2 (ji46)).f3.f2), .int .i64 ((rd_T31 t2 (ji46)).f4.f0), .int .i64 ((rd_T31 t2 (ji46)).f4.f1), .int .i64 ((rd_T31 t2 (ji46)).f4.f2), .int .i64 ((rd_T31 t2 (ji46)).f5)] 31 (0, 0)) (by (with_reducible repeat (first | refine blk_drewN ?_ _ | refine blk_drew ?_ | refine blk_alloc ?_ _)); exact BK28.out) hb); have n6_ := Aside0.mk (below_step (by repeat (first | (with_reducible first | exact HB.out | apply below_alloc | apply pw_below_drewN | apply below_drew1 | refine below_set ?_ GE5.out | refine below_set ?_ GE28.out) | exact HB.out)) hb); clear HO_5; clear HO34; clear HO37; clear BK5; clear BK28; clear HB; have HO_5 := n0_; have HO34 := n1_; have HO37 := n2_; have HO40 := n3_; have BK5 := n4_; have BK28 := n5_; have HB := n6_; clear n0_ n1_ n2_ n3_ n4_ n5_ n6_; clear hb ho66; obtain ⟨Ao68, co68, eo68⟩ := Kd.R_slice HO40.out; subst eo68) | ((with_reducible refine gate_builtin (b := .append) (xs := #[.tmp 75, .tmp 80]) rfl ?_); (try (refine gate_guard (by rfl) ?_; dsimp only)); at_builtin; refine Kd.R_append_rows Kd.string (w0 := w) w.heap.size rfl (.tmp 75) (.tmp 80) 74 9 (.string ⟨#[]⟩) 16 rfl Try.underlying74 info9 rfl (by decide) (by omega) v36 y35 y38 _ _ _ (fun k_ => some k_ ≠ (.slice Ao63 t32.length co63 : Value).ownBlock ∧ some k_ ≠ (.slice Ao68 y38.length co68 : Value).ownBlock) (fun _ => False) rfl rfl ?aO ?aR (fun _ _ h => h) (fun _ h => h.elim) ?aF ?aB ?aS ?aL ?_; (case aR => repeat (first | exact (Kd.R_reads' HO40.out).2.2 | (with_reducible refine Kd.C_alloc ?_ _) | (with_reducible refine Kd.C_drewN ?_ _) | (with_reducible refine Kd.C_drew ?_))); (case aB => exact (by repeat (first | (with_reducible first | exact HB.out | apply below_alloc | apply pw_below_drewN | apply below_drew1 | refine below_set ?_ GE5.out | refine below_set ?_ GE28.out) | exact HB.out))); (case aF => exact (fun k_ hk => ⟨Kd.fresh' (Kd.R_lt (by (with_reducible repeat (first | apply Kd.R_alloc | apply Kd.R_drewN | apply Kd.R_drew)); exact HO34.out)) k_ hk, Kd.fresh' (Kd.R_lt (by (with_reducible repeat (first | apply Kd.R_alloc | apply Kd.R_drewN | apply Kd.R_drew)); exact HO40.out)) k_ hk⟩)); (case aO => exact (by (with_reducible repeat (first | apply Kd.R_alloc | apply Kd.R_drewN | apply Kd.R_drew)); exact HO37.out)); (case aS => exact (below_size (by repeat (first | (with_reducible first | exact HB.out | apply below_alloc | apply pw_below_drewN | apply below_drew1 | refine below_set ?_ GE5.out | refine below_set ?_ GE28.out) | exact HB.out)))); (case aL => have := LMc51.out; omega); intro v42 w67 ho hb hg hat; rw [← Ny41.out] at ho; have n0_ := Aside0.mk (Kd.R_over' (by (with_reducible repeat (first | apply Kd.R_alloc | apply Kd.R_drewN | apply Kd.R_drew)); exact HO_5.out) (Kd.R_typed (by (with_reducible repeat (first | apply Kd.R_alloc | apply Kd.R_drewN | apply Kd.R_drew)); exact HO37.out)) (by decide) hg); have n1_ := Aside0.mk (blk_grown (g := gb5) (o := .cells #[.int .i64 x6000_1, .int .i64 x6001_1, .int .i64 x6002_1] 27 (0, 0)) (by (with_reducible repeat (first | refine blk_drewN ?_ _ | refine blk_drew ?_ | refine blk_alloc ?_ _)); exact BK5.out) hg (Kd.R_ne HO37.out BK5.out (by decide))); have n2_ := Aside0.mk (blk_grown (g := gb28) (o := .cells #[.string ((rd_T31 t2 (ji46)).f0), .string ((rd_T31 t2 (ji46)).f1), .int .i64 ((rd_T31 t2 (ji46)).f2.f0), .int .i64 ((rd_T31 t2 (ji46)).f2.f1), .int .i64 ((rd_T31 t2 (ji46)).f2.f2), .int .i64 ((rd_T31 t2 (ji46)).f3.f0), .int .i64 ((rd_T31 t2 (ji46)).f3.f1), .int .i64 ((rd_T31 t2 (ji46)).f3.f2), .int .i64 ((rd_T31 t2 (ji46)).f4.f0), .int .i64 ((rd_T31 t2 (ji46)).f4.f1), .int .i64 ((rd_T31 t2 (ji46)).f4.f2), .int .i64 ((rd_T31 t2 (ji46)).f5)] 31 (0, 0)) (by (with_reducible repeat (first | refine blk_drewN ?_ _ | refine blk_drew ?_ | refine blk_alloc ?_ _)); exact BK28.out) hg (Kd.R_ne HO37.out BK28.out (by decide))); have n3_ := Aside0.mk (Kd.R_after (ok := (fun k_ => some k_ ≠ (.slice Ao68 y38.length co68 : Value).ownBlock)) (by (with_reducible repeat (first | apply Kd.R_alloc | apply Kd.R_drewN | apply Kd.R_drew)); exact Kd.R_mono HO34.out (fun _ hk => ⟨hk.2, hk.1.2⟩)) hg hat); have n4_ := Aside0.mk (Kd.R_after (ok := (fun k_ => some k_ ≠ (.slice Ao63 t32.length co63 : Value).ownBlock)) (by (with_reducible repeat (first | apply Kd.R_alloc | apply Kd.R_drewN | apply Kd.R_drew)); exact Kd.R_mono HO40.out (fun _ hk => ⟨hk.1.2, hk.2⟩)) hg hat); have n5_ := Aside0.mk (hb); have n6_ := Aside0.mk (ho); clear HO_5; clear BK5; clear BK28; clear HO34; clear HO40; clear HB; clear HO37; have HO_5 := n0_; have BK5 := n1_; have BK28 := n2_; have HO34 := n3_; have HO40 := n4_; have HB := n5_; have HO43 := n6_; clear n0_ n1_ n2_ n3_ n4_ n5_ n6_; clear ho hb hg hat))
              have n0_ := Aside0.mk (Kd.R_drew HO_5.out)
              have n1_ := Aside0.mk (Kd.R_drew HO34.out)
              have n2_ := Aside0.mk (Kd.R_drew HO40.out)
              have n3_ := Aside0.mk (Kd.R_drew HO43.out)
              have n4_ := Aside0.mk (blk_drew BK5.out)
              have n5_ := Aside0.mk (blk_drew BK28.out)
              have n6_ := Aside0.mk (below_drew1 HB.out)
              clear HO_5
              clear HO34
              clear HO40
              clear HO43
              clear BK5
              clear BK28
              clear HB
              have HO_5 := n0_
              have HO34 := n1_
              have HO40 := n2_
              have HO43 := n3_
              have BK5 := n4_
              have BK28 := n5_
              have HB := n6_
              clear n0_ n1_ n2_ n3_ n4_ n5_ n6_
              obtain ⟨Ao70, co70, eo70⟩ := Kd.R_slice HO43.out
              (first | subst eo70 | (injection eo70 with f1_ f2_ f3_; have f4_ := f1_.symm; have f5_ := f3_.symm; clear f1_ f2_ f3_; subst f4_; subst f5_))
              refine start_ (n := 10) (S := fun w' => w'.cell? ⟨gb28, 0, none⟩ = some (.string ((rd_T31 t2 (ji46)).f0)) ∧ w'.cell? ⟨gb28, 1, none⟩ = some (.string ((rd_T31 t2 (ji46)).f1)) ∧ w'.cell? ⟨gb28, 2, none⟩ = some (.int .i64 ((rd_T31 t2 (ji46)).f2.f0)) ∧ w'.cell? ⟨gb28, 3, none⟩ = some (.int .i64 ((rd_T31 t2 (ji46)).f2.f1)) ∧ w'.cell? ⟨gb28, 4, none⟩ = some (.int .i64 ((rd_T31 t2 (ji46)).f2.f2)) ∧ w'.cell? ⟨gb28, 5, none⟩ = some (.int .i64 ((rd_T31 t2 (ji46)).f3.f0)) ∧ w'.cell? ⟨gb28, 6, none⟩ = some (.int .i64 ((rd_T31 t2 (ji46)).f3.f1)) ∧ w'.cell? ⟨gb28, 7, none⟩ = some (.int .i64 ((rd_T31 t2 (ji46)).f3.f2)) ∧ w'.cell? ⟨gb28, 8, none⟩ = some (.int .i64 ((rd_T31 t2 (ji46)).f4.f0)) ∧ w'.cell? ⟨gb28, 9, none⟩ = some (.int .i64 ((rd_T31 t2 (ji46)).f4.f1)) ∧ w'.cell? ⟨gb28, 10, none⟩ = some (.int .i64 ((rd_T31 t2 (ji46)).f4.f2)) ∧ w'.cell? ⟨gb28, 11, none⟩ = some (.int .i64 ((rd_T31 t2 (ji46)).f5))) (ds := []) #[false, false, false, false, false, false, false, false, false, false] (by kernel_rfl) rfl rfl ⟨(blk_cell BK28.out 0).trans rfl, (blk_cell BK28.out 1).trans rfl, (blk_cell BK28.out 2).trans rfl, (blk_cell BK28.out 3).trans rfl, (blk_cell BK28.out 4).trans rfl, (blk_cell BK28.out 5).trans rfl, (blk_cell BK28.out 6).trans rfl, (blk_cell BK28.out 7).trans rfl, (blk_cell BK28.out 8).trans rfl, (blk_cell BK28.out 9).trans rfl, (blk_cell BK28.out 10).trans rfl, (blk_cell BK28.out 11).trans rfl⟩ (fun hHeld => ?_); refine with_tabW law13_RoomShares.tab18 law13_RoomShares.bits18 (fun HT_ HW_ => ?_)
              generalize w67.drew = w69 at HO_5 HO34 HO40 HO43 BK5 BK28 HB hHeld ⊢
              refine pure_ (i := 0) (N := some 82) (v := ?_) (a' := ?_) #[true, false, false, false, false, false, false, false, false, false] rfl rfl (any_of HT_.out (by kernel_rfl)) (fun _ _ _ h => h) (Or.inl ⟨by rfl, ?_⟩) ?_ ?_
              rotate_left
              ·intro w'
               go_simp
               with_reducible rfl
              rotate_left
              ·simp only [Act.put, List.setIfInBounds_toArray, List.set_cons_zero, List.set_cons_succ, i64_w, i32_w]
               rfl
              refine pure_ (i := 1) (N := some 83) (v := ?_) (a' := ?_) #[true, true, false, false, false, false, false, false, false, false] rfl rfl (any_of HT_.out (by kernel_rfl)) (fun _ _ _ h => h) (Or.inl ⟨by rfl, ?_⟩) ?_ ?_
              rotate_left
              ·intro w'
               go_simp
               with_reducible rfl
              rotate_left
              ·simp only [Act.put, List.setIfInBounds_toArray, List.set_cons_zero, List.set_cons_succ, i64_w, i32_w]
               rfl
              refine pure_ (i := 3) (N := some 85) (v := ?_) (a' := ?_) #[true, true, false, true, false, false, false, false, false, false] rfl rfl (any_of HT_.out (by kernel_rfl)) (fun _ _ _ h => h) (Or.inl ⟨by rfl, ?_⟩) ?_ ?_
              rotate_left
              ·intro w'
               go_simp
               with_reducible rfl
              rotate_left
              ·simp only [Act.put, List.setIfInBounds_toArray, List.set_cons_zero, List.set_cons_succ, i64_w, i32_w]
               rfl
              refine take_ (i := 4) (N := some 86) (v := ?_) (a' := ?_) #[true, true, false, true, true, false, false, false, false, false] rfl rfl (take_ofW HT_.out HW_.out (by kernel_rfl)) (fun _ _ _ h => h) (Or.inl ⟨by rfl, ?_⟩) hHeld ?_ ?_
              rotate_left
              ·rintro w' ⟨s0, s1, s2, s3, s4, s5, s6, s7, s8, s9, s10, s11⟩
               go_simp
               with_reducible rfl
              rotate_left
              ·simp only [Act.put, List.setIfInBounds_toArray, List.set_cons_zero, List.set_cons_succ, i64_w, i32_w]
               rfl
              refine one_ (i := 2) (N := some 84) #[true, true, true, true, true, false, false, false, false, false] rfl rfl (one_of HT_.out (by kernel_rfl)) (by decide) (fun K hK => ?_)
              refine goes_ Try.func74 (by kernel_rfl) rfl #[.slice (some ad27) t2.length co9, .slice Ao70 y41.length co70] (by rfl) rfl rfl (by (try simp only [List.map_toArray, List.map_cons, List.map_nil]); first | done | rfl | (simp only [List.length_drop, List.length_take]; rfl)) ?_
              with_reducible refine (room_Share.calls kj20 _ _ t2 _ _ y41 t44 t45 t46 _ ?side1 ?side2 ?side3 ?side4 A52.out).mono ?_
              (case side1 => repeat (first | exact (Kd.R_reads' HO_5.out).2.2 | (with_reducible refine Kd.C_alloc ?_ _) | (with_reducible refine Kd.C_drewN ?_ _) | (with_reducible refine Kd.C_drew ?_)))
              (case side2 => exact (Kd.R_reads' HO_5.out).2.1)
              (case side3 => repeat (first | exact (Kd.R_reads' HO43.out).2.2 | (with_reducible refine Kd.C_alloc ?_ _) | (with_reducible refine Kd.C_drewN ?_ _) | (with_reducible refine Kd.C_drew ?_)))
              (case side4 => exact (Kd.R_reads' HO43.out).2.1)
              rintro e w71 ⟨rfl, hb⟩
              refine ⟨_, rfl, ?_⟩
              have n0_ := Aside0.mk (Kd.R_below (by (with_reducible repeat (first | apply Kd.R_alloc | apply Kd.R_drewN | apply Kd.R_drew)); exact HO_5.out) hb)
              have n1_ := Aside0.mk (Kd.R_below (by (with_reducible repeat (first | apply Kd.R_alloc | apply Kd.R_drewN | apply Kd.R_drew)); exact HO34.out) hb)
              have n2_ := Aside0.mk (Kd.R_below (by (with_reducible repeat (first | apply Kd.R_alloc | apply Kd.R_drewN | apply Kd.R_drew)); exact HO40.out) hb)
              have n3_ := Aside0.mk (Kd.R_below (by (with_reducible repeat (first | apply Kd.R_alloc | apply Kd.R_drewN | apply Kd.R_drew)); exact HO43.out) hb)
              have n4_ := Aside0.mk (blk_below (g := gb5) (o := .cells #[.int .i64 x6000_1, .int .i64 x6001_1, .int .i64 x6002_1] 27 (0, 0)) (by (with_reducible repeat (first | refine blk_drewN ?_ _ | refine blk_drew ?_ | refine blk_alloc ?_ _)); exact BK5.out) hb)
              have n5_ := Aside0.mk (blk_below (g := gb28) (o := .cells #[.string ((rd_T31 t2 (ji46)).f0), .string ((rd_T31 t2 (ji46)).f1), .int .i64 ((rd_T31 t2 (ji46)).f2.f0), .int .i64 ((rd_T31 t2 (ji46)).f2.f1), .int .i64 ((rd_T31 t2 (ji46)).f2.f2), .int .i64 ((rd_T31 t2 (ji46)).f3.f0), .int .i64 ((rd_T31 t2 (ji46)).f3.f1), .int .i64 ((rd_T31 t2 (ji46)).f3.f2), .int .i64 ((rd_T31 t2 (ji46)).f4.f0), .int .i64 ((rd_T31 t2 (ji46)).f4.f1), .int .i64 ((rd_T31 t2 (ji46)).f4.f2), .int .i64 ((rd_T31 t2 (ji46)).f5)] 31 (0, 0)) (by (with_reducible repeat (first | refine blk_drewN ?_ _ | refine blk_drew ?_ | refine blk_alloc ?_ _)); exact BK28.out) hb)
              have n6_ := Aside0.mk (below_step (by repeat (first | (with_reducible first | exact HB.out | apply below_alloc | apply pw_below_drewN | apply below_drew1 | refine below_set ?_ GE5.out | refine below_set ?_ GE28.out) | exact HB.out)) hb)
              clear HO_5
              clear HO34
              clear HO40
              clear HO43
              clear BK5
              clear BK28
              clear HB
              have HO_5 := n0_
              have HO34 := n1_
              have HO40 := n2_
              have HO43 := n3_
              have BK5 := n4_
              have BK28 := n5_
              have HB := n6_
              clear n0_ n1_ n2_ n3_ n4_ n5_ n6_
              (try clear hb)
              (try clear hb2)
              (try clear hk)
              (try clear hi)
              refine hK.out _ _ ⟨(blk_cell BK28.out 0).trans rfl, (blk_cell BK28.out 1).trans rfl, (blk_cell BK28.out 2).trans rfl, (blk_cell BK28.out 3).trans rfl, (blk_cell BK28.out 4).trans rfl, (blk_cell BK28.out 5).trans rfl, (blk_cell BK28.out 6).trans rfl, (blk_cell BK28.out 7).trans rfl, (blk_cell BK28.out 8).trans rfl, (blk_cell BK28.out 9).trans rfl, (blk_cell BK28.out 10).trans rfl, (blk_cell BK28.out 11).trans rfl⟩ (fun hHeld => ?_)
              clear hK K
              refine norm_ (a' := ?_) ?_ ?_
              rotate_left
              ·show Act.put _ (some 84) _ = _
               simp only [Act.put, List.setIfInBounds_toArray, List.set_cons_zero, List.set_cons_succ, i64_w, i32_w]
               rfl
              refine pure_ (i := 5) (N := some 87) (v := ?_) (a' := ?_) #[true, true, true, true, true, true, false, false, false, false] rfl rfl (any_of HT_.out (by kernel_rfl)) (fun _ _ _ h => h) (Or.inl ⟨by rfl, ?_⟩) ?_ ?_
              rotate_left
              ·intro w'
               go_simp
               with_reducible rfl
              rotate_left
              ·simp only [Act.put, List.setIfInBounds_toArray, List.set_cons_zero, List.set_cons_succ, i64_w, i32_w]
               rfl
              refine pure_ (i := 6) (N := some 88) (v := ?_) (a' := ?_) #[true, true, true, true, true, true, true, false, false, false] rfl rfl (any_of HT_.out (by kernel_rfl)) (fun _ _ _ h => h) (Or.inl ⟨by rfl, ?_⟩) ?_ ?_
              rotate_left
              ·intro w'
               go_simp
               with_reducible rfl
              rotate_left
              ·simp only [Act.put, List.setIfInBounds_toArray, List.set_cons_zero, List.set_cons_succ, i64_w, i32_w]
               rfl
              refine one_ (i := 7) (N := some 89) #[true, true, true, true, true, true, true, true, false, false] rfl rfl (one_of HT_.out (by kernel_rfl)) (by decide) (fun K hK => ?_)
              refine goes_ Try.func31 (by kernel_rfl) rfl #[] (by rfl) rfl rfl (by (try simp only [List.map_toArray, List.map_cons, List.map_nil]); first | done | rfl | (simp only [List.length_drop, List.length_take]; rfl)) ?_
              with_reducible refine (law13_awake.calls kj20  t47 _ A54.out).mono ?_
              rintro e w72 ⟨rfl, hb⟩
              refine ⟨_, rfl, ?_⟩
              have n0_ := Aside0.mk (Kd.R_below (by (with_reducible repeat (first | apply Kd.R_alloc | apply Kd.R_drewN | apply Kd.R_drew)); exact HO_5.out) hb)
              have n1_ := Aside0.mk (Kd.R_below (by (with_reducible repeat (first | apply Kd.R_alloc | apply Kd.R_drewN | apply Kd.R_drew)); exact HO34.out) hb)
              have n2_ := Aside0.mk (Kd.R_below (by (with_reducible repeat (first | apply Kd.R_alloc | apply Kd.R_drewN | apply Kd.R_drew)); exact HO40.out) hb)
              have n3_ := Aside0.mk (Kd.R_below (by (with_reducible repeat (first | apply Kd.R_alloc | apply Kd.R_drewN | apply Kd.R_drew)); exact HO43.out) hb)
              have n4_ := Aside0.mk (blk_below (g := gb5) (o := .cells #[.int .i64 x6000_1, .int .i64 x6001_1, .int .i64 x6002_1] 27 (0, 0)) (by (with_reducible repeat (first | refine blk_drewN ?_ _ | refine blk_drew ?_ | refine blk_alloc ?_ _)); exact BK5.out) hb)
              have n5_ := Aside0.mk (blk_below (g := gb28) (o := .cells #[.string ((rd_T31 t2 (ji46)).f0), .string ((rd_T31 t2 (ji46)).f1), .int .i64 ((rd_T31 t2 (ji46)).f2.f0), .int .i64 ((rd_T31 t2 (ji46)).f2.f1), .int .i64 ((rd_T31 t2 (ji46)).f2.f2), .int .i64 ((rd_T31 t2 (ji46)).f3.f0), .int .i64 ((rd_T31 t2 (ji46)).f3.f1), .int .i64 ((rd_T31 t2 (ji46)).f3.f2), .int .i64 ((rd_T31 t2 (ji46)).f4.f0), .int .i64 ((rd_T31 t2 (ji46)).f4.f1), .int .i64 ((rd_T31 t2 (ji46)).f4.f2), .int .i64 ((rd_T31 t2 (ji46)).f5)] 31 (0, 0)) (by (with_reducible repeat (first | refine blk_drewN ?_ _ | refine blk_drew ?_ | refine blk_alloc ?_ _)); exact BK28.out) hb)
              have n6_ := Aside0.mk (below_step (by repeat (first | (with_reducible first | exact HB.out | apply below_alloc | apply pw_below_drewN | apply below_drew1 | refine below_set ?_ GE5.out | refine below_set ?_ GE28.out) | exact HB.out)) hb)
              clear HO_5
              clear HO34
              clear HO40
              clear HO43
              clear BK5
              clear BK28
              clear HB
              have HO_5 := n0_
              have HO34 := n1_
              have HO40 := n2_
              have HO43 := n3_
              have BK5 := n4_
              have BK28 := n5_
              have HB := n6_
              clear n0_ n1_ n2_ n3_ n4_ n5_ n6_
              (try clear hb)
              (try clear hb2)
              (try clear hk)
              (try clear hi)
              refine hK.out _ _ ⟨(blk_cell BK28.out 0).trans rfl, (blk_cell BK28.out 1).trans rfl, (blk_cell BK28.out 2).trans rfl, (blk_cell BK28.out 3).trans rfl, (blk_cell BK28.out 4).trans rfl, (blk_cell BK28.out 5).trans rfl, (blk_cell BK28.out 6).trans rfl, (blk_cell BK28.out 7).trans rfl, (blk_cell BK28.out 8).trans rfl, (blk_cell BK28.out 9).trans rfl, (blk_cell BK28.out 10).trans rfl, (blk_cell BK28.out 11).trans rfl⟩ (fun hHeld => ?_)
              clear hK K
              refine norm_ (a' := ?_) ?_ ?_
              rotate_left
              ·show Act.put _ (some 89) _ = _
               simp only [Act.put, List.setIfInBounds_toArray, List.set_cons_zero, List.set_cons_succ, i64_w, i32_w]
               rfl
              refine pure_ (i := 8) (N := some 90) (v := ?_) (a' := ?_) #[true, true, true, true, true, true, true, true, true, false] rfl rfl (any_of HT_.out (by kernel_rfl)) (fun _ _ _ h => h) (Or.inl ⟨by rfl, ?_⟩) ?_ ?_
              rotate_left
              ·intro w'
               go_simp
               with_reducible rfl
              rotate_left
              ·simp only [Act.put, List.setIfInBounds_toArray, List.set_cons_zero, List.set_cons_succ, i64_w, i32_w]
               rfl
              refine pure_ (i := 9) (N := some 4) (v := ?_) (a' := ?_) #[true, true, true, true, true, true, true, true, true, true] rfl rfl (any_of HT_.out (by kernel_rfl)) (fun _ _ _ h => h) (Or.inl ⟨by rfl, ?_⟩) ?_ ?_
              rotate_left
              ·intro w'
               go_simp
               with_reducible rfl
              rotate_left
              ·simp only [Act.put, List.setIfInBounds_toArray, List.set_cons_zero, List.set_cons_succ, i64_w, i32_w]
               rfl
              refine done_ (done_of HT_.out (by kernel_rfl)) ?_
              try go_wp2
              go_ret
              exact ⟨by first | rfl | (simp [errW_none, errW_some] <;> rfl) | (simp only [← hji46]; first | rfl | (simp [errW_none, errW_some] <;> rfl)) | (simp [*, errW_none, errW_some] <;> rfl), by repeat (first | (with_reducible first | exact HB.out | apply below_alloc | apply pw_below_drewN | apply below_drew1 | refine below_set ?_ GE5.out | refine below_set ?_ GE28.out) | exact HB.out)⟩
             ·rw [if_neg c53] at H
              have c53b0 : (t44 == ((rd_T31 t2 (ji46)).f4.f0) && (t45 == ((rd_T31 t2 (ji46)).f4.f1) && (t46 == ((rd_T31 t2 (ji46)).f4.f2)))) = false := by simpa using c53
              (try (have c53b1 : decide (t44 = ((rd_T31 t2 (ji46)).f4.f0) && (t45 == ((rd_T31 t2 (ji46)).f4.f1) && (t46 == ((rd_T31 t2 (ji46)).f4.f2)))) = false := by simpa using c53))
              (try (have c53b2 : (t44 == ((rd_T31 t2 (ji46)).f4.f0) && (t45 == ((rd_T31 t2 (ji46)).f4.f1) && (t46 == ((rd_T31 t2 (ji46)).f4.f2)))) = false := by simpa using c53))
              (try (have c53b3 : ¬ (t44 = ((rd_T31 t2 (ji46)).f4.f0) && (t45 == ((rd_T31 t2 (ji46)).f4.f1) && (t46 == ((rd_T31 t2 (ji46)).f4.f2)))) := by simpa using c53))
              clear c53
              obtain rfl := Option.some.inj H
              have p27 : 0 ≤ ((ji46) : Int) := of_decide_eq_true (by first | (with_reducible assumption) | assumption)
              have q27 : (ji46) < (t2.length : Int) := of_decide_eq_true (by first | (with_reducible assumption) | assumption)
              obtain ⟨ad27, e27, hx27_0, hx27_1, hx27_2, hx27_3, hx27_4, hx27_5, hx27_6, hx27_7, hx27_8, hx27_9, hx27_10, hx27_11⟩ := at_T31 (Kd.R_reads' HO_5.out).2.2 (ji46) p27 q27
              cases e27
              replace p27 := eq_true p27
              replace q27 := eq_true q27
              try go_wp2_with (first | ((with_reducible refine gate_dst (N := 9) rfl ?_); (try (refine gate_guard (by rfl) ?_; dsimp only)); refine box_event ?hg (N := 9) ?hd (cs := #[.string (⟨#[]⟩ : ByteArray), .string (⟨#[]⟩ : ByteArray), .int .i64 0, .int .i64 0, .int .i64 0, .int .i64 0, .int .i64 0, .int .i64 0, .int .i64 0, .int .i64 0, .int .i64 0, .int .i64 0]) (t := 31) ?hr ?_; (case hd => rfl); (case hg => rfl); (case hr => first | (go_simp; done) | (go_simp; rfl)); intro gb28 hg w73 hbox hb; have n0_ := Aside0.mk (Kd.R_below (Kd.R_elderB (by (with_reducible repeat (first | apply Kd.R_alloc | apply Kd.R_drewN | apply Kd.R_drew)); exact HO_5.out) gb28 (Nat.le_of_eq hg.symm)) hb); have n1_ := Aside0.mk (blk_below (g := gb5) (o := .cells #[.int .i64 x6000_1, .int .i64 x6001_1, .int .i64 x6002_1] 27 (0, 0)) (by (with_reducible repeat (first | refine blk_drewN ?_ _ | refine blk_drew ?_ | refine blk_alloc ?_ _)); exact BK5.out) hb); have n2_ := Aside0.mk (below_step (by repeat (first | (with_reducible first | exact HB.out | apply below_alloc | apply pw_below_drewN | apply below_drew1 | refine below_set ?_ GE5.out) | exact HB.out)) hb); have n3_ := Aside0.mk (hbox); have n4_ := Aside0.mk ((by rw [hg]; exact (below_size (by repeat (first | (with_reducible first | exact HB.out | apply below_alloc | apply pw_below_drewN | apply below_drew1 | refine below_set ?_ GE5.out) | exact HB.out))) : w.heap.size ≤ gb28)); have n5_ := Aside0.mk ((by rw [hg]; exact (below_size (by repeat (first | (with_reducible first | exact HB.out | apply below_alloc | apply pw_below_drewN | apply below_drew1 | refine below_set ?_ GE5.out) | exact HB.out))) : w.heap.size ≤ gb28)); have n6_ := Aside0.mk ((by rw [hg]; exact Nat.ne_of_lt (blk_lt (g := gb5) (o := .cells #[.int .i64 x6000_1, .int .i64 x6001_1, .int .i64 x6002_1] 27 (0, 0)) (by (with_reducible repeat (first | refine blk_drewN ?_ _ | refine blk_drew ?_ | refine blk_alloc ?_ _)); exact BK5.out)) : gb5 ≠ gb28)); have n7_ := Aside0.mk ((by rw [hg]; exact Nat.ne_of_gt (blk_lt (g := gb5) (o := .cells #[.int .i64 x6000_1, .int .i64 x6001_1, .int .i64 x6002_1] 27 (0, 0)) (by (with_reducible repeat (first | refine blk_drewN ?_ _ | refine blk_drew ?_ | refine blk_alloc ?_ _)); exact BK5.out)) : gb28 ≠ gb5)); clear HO_5; clear BK5; clear HB; have HO_5 := n0_; have BK5 := n1_; have HB := n2_; have BK28 := n3_; have GW28 := n4_; have GE28 := n5_; have NB5_28 := n6_; have NB28_5 := n7_; clear n0_ n1_ n2_ n3_ n4_ n5_ n6_ n7_; clear hb hbox hg; have hnb74 := NB28_5.out; have hnc74 := NB5_28.out; have hcz75_0 : w73.cell? ⟨gb28, 0, none⟩ = some (.string (⟨#[]⟩ : ByteArray)) := (blk_cell BK28.out 0).trans rfl; have hcz75_1 : w73.cell? ⟨gb28, 1, none⟩ = some (.string (⟨#[]⟩ : ByteArray)) := (blk_cell BK28.out 1).trans rfl; have hcz75_2 : w73.cell? ⟨gb28, 2, none⟩ = some (.int .i64 0) := (blk_cell BK28.out 2).trans rfl; have hcz75_3 : w73.cell? ⟨gb28, 3, none⟩ = some (.int .i64 0) := (blk_cell BK28.out 3).trans rfl; have hcz75_4 : w73.cell? ⟨gb28, 4, none⟩ = some (.int .i64 0) := (blk_cell BK28.out 4).trans rfl; have hcz75_5 : w73.cell? ⟨gb28, 5, none⟩ = some (.int .i64 0) := (blk_cell BK28.out 5).trans rfl; have hcz75_6 : w73.cell? ⟨gb28, 6, none⟩ = some (.int .i64 0) := (blk_cell BK28.out 6).trans rfl; have hcz75_7 : w73.cell? ⟨gb28, 7, none⟩ = some (.int .i64 0) := (blk_cell BK28.out 7).trans rfl; have hcz75_8 : w73.cell? ⟨gb28, 8, none⟩ = some (.int .i64 0) := (blk_cell BK28.out 8).trans rfl; have hcz75_9 : w73.cell? ⟨gb28, 9, none⟩ = some (.int .i64 0) := (blk_cell BK28.out 9).trans rfl; have hcz75_10 : w73.cell? ⟨gb28, 10, none⟩ = some (.int .i64 0) := (blk_cell BK28.out 10).trans rfl; have hcz75_11 : w73.cell? ⟨gb28, 11, none⟩ = some (.int .i64 0) := (blk_cell BK28.out 11).trans rfl; have hfz75_0 := blk_frozen BK28.out 0; have hfz75_1 := blk_frozen BK28.out 1; have hfz75_2 := blk_frozen BK28.out 2; have hfz75_3 := blk_frozen BK28.out 3; have hfz75_4 := blk_frozen BK28.out 4; have hfz75_5 := blk_frozen BK28.out 5; have hfz75_6 := blk_frozen BK28.out 6; have hfz75_7 := blk_frozen BK28.out 7; have hfz75_8 := blk_frozen BK28.out 8; have hfz75_9 := blk_frozen BK28.out 9; have hfz75_10 := blk_frozen BK28.out 10; have hfz75_11 := blk_frozen BK28.out 11) | ((with_reducible refine gate_dst (N := 69) rfl ?_); (try (refine gate_guard (by rfl) ?_; dsimp only)); refine Kd.R_lit Kd.string _ 9 ?hg (N := 69) ?hd (xs := ([] : List ByteArray)) (inner := []) (ok := fun _ => True) (okp := fun _ => True) ?hr ?hp (fun _ hk => hk) trivial (Below.refl _ _) (Nat.le_refl _) (by simp) ?_; (case hd => rfl); (case hg => rfl); (case hr => first | (go_simp; done) | (go_simp; rfl)); (case hp => exact (Reps.none _ _)); intro v30 w76 ho77 hb hg_ hnew_; clear hg_ hnew_; (first | rw [← Ny29.out] at ho77 | (simp only [Int.reduceToNat] at ho77; rw [← Ny29.out] at ho77)); have n0_ := Aside0.mk (Kd.R_below (by (with_reducible repeat (first | apply Kd.R_alloc | apply Kd.R_drewN | apply Kd.R_drew)); exact (Kd.R_mono (Kd.R_far (p := ⟨gb28, 11, none⟩) (Kd.R_far (p := ⟨gb28, 10, none⟩) (Kd.R_far (p := ⟨gb28, 9, none⟩) (Kd.R_far (p := ⟨gb28, 8, none⟩) (Kd.R_far (p := ⟨gb28, 7, none⟩) (Kd.R_far (p := ⟨gb28, 6, none⟩) (Kd.R_far (p := ⟨gb28, 5, none⟩) (Kd.R_far (p := ⟨gb28, 4, none⟩) (Kd.R_far (p := ⟨gb28, 3, none⟩) (Kd.R_far (p := ⟨gb28, 2, none⟩) (Kd.R_far (p := ⟨gb28, 1, none⟩) (Kd.R_far (p := ⟨gb28, 0, none⟩) (Kd.R_mono HO_5.out (fun k_ hk => (⟨hk, hk.2⟩ : _ ∧ k_ ≠ gb28))) (fun _ hk => hk.2) (.string ((rd_T31 t2 (ji46)).f0))) (fun _ hk => hk.2) (.string ((rd_T31 t2 (ji46)).f1))) (fun _ hk => hk.2) (.int .i64 ((rd_T31 t2 (ji46)).f2.f0))) (fun _ hk => hk.2) (.int .i64 ((rd_T31 t2 (ji46)).f2.f1))) (fun _ hk => hk.2) (.int .i64 ((rd_T31 t2 (ji46)).f2.f2))) (fun _ hk => hk.2) (.int .i64 ((rd_T31 t2 (ji46)).f3.f0))) (fun _ hk => hk.2) (.int .i64 ((rd_T31 t2 (ji46)).f3.f1))) (fun _ hk => hk.2) (.int .i64 ((rd_T31 t2 (ji46)).f3.f2))) (fun _ hk => hk.2) (.int .i64 ((rd_T31 t2 (ji46)).f4.f0))) (fun _ hk => hk.2) (.int .i64 ((rd_T31 t2 (ji46)).f4.f1))) (fun _ hk => hk.2) (.int .i64 ((rd_T31 t2 (ji46)).f4.f2))) (fun _ hk => hk.2) (.int .i64 ((rd_T31 t2 (ji46)).f5))) (fun _ h_ => h_.1))) hb); have n1_ := Aside0.mk (Kd.R_lower ho77 (below_size (by repeat (first | (with_reducible first | exact HB.out | apply below_alloc | apply pw_below_drewN | apply below_drew1 | refine below_set ?_ GE5.out | refine below_set ?_ GE28.out) | exact HB.out)))); have n2_ := Aside0.mk (blk_below (g := gb5) (o := .cells #[.int .i64 x6000_1, .int .i64 x6001_1, .int .i64 x6002_1] 27 (0, 0)) (by (with_reducible repeat (first | refine blk_drewN ?_ _ | refine blk_drew ?_ | refine blk_alloc ?_ _)); refine blk_far ?_ NB5_28.out _; (with_reducible repeat (first | refine blk_drewN ?_ _ | refine blk_drew ?_ | refine blk_alloc ?_ _)); refine blk_far ?_ NB5_28.out _; (with_reducible repeat (first | refine blk_drewN ?_ _ | refine blk_drew ?_ | refine blk_alloc ?_ _)); refine blk_far ?_ NB5_28.out _; (with_reducible repeat (first | refine blk_drewN ?_ _ | refine blk_drew ?_ | refine blk_alloc ?_ _)); refine blk_far ?_ NB5_28.out _; (with_reducible repeat (first | refine blk_drewN ?_ _ | refine blk_drew ?_ | refine blk_alloc ?_ _)); refine blk_far ?_ NB5_28.out _; (with_reducible repeat (first | refine blk_drewN ?_ _ | refine blk_drew ?_ | refine blk_alloc ?_ _)); refine blk_far ?_ NB5_28.out _; (with_reducible repeat (first | refine blk_drewN ?_ _ | refine blk_drew ?_ | refine blk_alloc ?_ _)); refine blk_far ?_ NB5_28.out _; (with_reducible repeat (first | refine blk_drewN ?_ _ | refine blk_drew ?_ | refine blk_alloc ?_ _)); refine blk_far ?_ NB5_28.out _; (with_reducible repeat (first | refine blk_drewN ?_ _ | refine blk_drew ?_ | refine blk_alloc ?_ _)); refine blk_far ?_ NB5_28.out _; (with_reducible repeat (first | refine blk_drewN ?_ _ | refine blk_drew ?_ | refine blk_alloc ?_ _)); refine blk_far ?_ NB5_28.out _; (with_reducible repeat (first | refine blk_drewN ?_ _ | refine blk_drew ?_ | refine blk_alloc ?_ _)); refine blk_far ?_ NB5_28.out _; (with_reducible repeat (first | refine blk_drewN ?_ _ | refine blk_drew ?_ | refine blk_alloc ?_ _)); refine blk_far ?_ NB5_28.out _; (with_reducible repeat (first | refine blk_drewN ?_ _ | refine blk_drew ?_ | refine blk_alloc ?_ _)); exact BK5.out) hb); have n3_ := Aside0.mk (blk_below (g := gb28) (o := .cells #[.string ((rd_T31 t2 (ji46)).f0), .string ((rd_T31 t2 (ji46)).f1), .int .i64 ((rd_T31 t2 (ji46)).f2.f0), .int .i64 ((rd_T31 t2 (ji46)).f2.f1), .int .i64 ((rd_T31 t2 (ji46)).f2.f2), .int .i64 ((rd_T31 t2 (ji46)).f3.f0), .int .i64 ((rd_T31 t2 (ji46)).f3.f1), .int .i64 ((rd_T31 t2 (ji46)).f3.f2), .int .i64 ((rd_T31 t2 (ji46)).f4.f0), .int .i64 ((rd_T31 t2 (ji46)).f4.f1), .int .i64 ((rd_T31 t2 (ji46)).f4.f2), .int .i64 ((rd_T31 t2 (ji46)).f5)] 31 (0, 0)) (by (with_reducible repeat (first | refine blk_drewN ?_ _ | refine blk_drew ?_ | refine blk_alloc ?_ _)); refine blk_put (cs := #[.string ((rd_T31 t2 (ji46)).f0), .string ((rd_T31 t2 (ji46)).f1), .int .i64 ((rd_T31 t2 (ji46)).f2.f0), .int .i64 ((rd_T31 t2 (ji46)).f2.f1), .int .i64 ((rd_T31 t2 (ji46)).f2.f2), .int .i64 ((rd_T31 t2 (ji46)).f3.f0), .int .i64 ((rd_T31 t2 (ji46)).f3.f1), .int .i64 ((rd_T31 t2 (ji46)).f3.f2), .int .i64 ((rd_T31 t2 (ji46)).f4.f0), .int .i64 ((rd_T31 t2 (ji46)).f4.f1), .int .i64 ((rd_T31 t2 (ji46)).f4.f2), .int .i64 0]) ?_ 11 _ rfl; (with_reducible repeat (first | refine blk_drewN ?_ _ | refine blk_drew ?_ | refine blk_alloc ?_ _)); refine blk_put (cs := #[.string ((rd_T31 t2 (ji46)).f0), .string ((rd_T31 t2 (ji46)).f1), .int .i64 ((rd_T31 t2 (ji46)).f2.f0), .int .i64 ((rd_T31 t2 (ji46)).f2.f1), .int .i64 ((rd_T31 t2 (ji46)).f2.f2), .int .i64 ((rd_T31 t2 (ji46)).f3.f0), .int .i64 ((rd_T31 t2 (ji46)).f3.f1), .int .i64 ((rd_T31 t2 (ji46)).f3.f2), .int .i64 ((rd_T31 t2 (ji46)).f4.f0), .int .i64 ((rd_T31 t2 (ji46)).f4.f1), .int .i64 0, .int .i64 0]) ?_ 10 _ rfl; (with_reducible repeat (first | refine blk_drewN ?_ _ | refine blk_drew ?_ | refine blk_alloc ?_ _)); refine blk_put (cs := #[.string ((rd_T31 t2 (ji46)).f0), .string ((rd_T31 t2 (ji46)).f1), .int .i64 ((rd_T31 t2 (ji46)).f2.f0), .int .i64 ((rd_T31 t2 (ji46)).f2.f1), .int .i64 ((rd_T31 t2 (ji46)).f2.f2), .int .i64 ((rd_T31 t2 (ji46)).f3.f0), .int .i64 ((rd_T31 t2 (ji46)).f3.f1), .int .i64 ((rd_T31 t2 (ji46)).f3.f2), .int .i64 ((rd_T31 t2 (ji46)).f4.f0), .int .i64 0, .int .i64 0, .int .i64 0]) ?_ 9 _ rfl; (with_reducible repeat (first | refine blk_drewN ?_ _ | refine blk_drew ?_ | refine blk_alloc ?_ _)); refine blk_put (cs := #[.string ((rd_T31 t2 (ji46)).f0), .string ((rd_T31 t2 (ji46)).f1), .int .i64 ((rd_T31 t2 (ji46)).f2.f0), .int .i64 ((rd_T31 t2 (ji46)).f2.f1), .int .i64 ((rd_T31 t2 (ji46)).f2.f2), .int .i64 ((rd_T31 t2 (ji46)).f3.f0), .int .i64 ((rd_T31 t2 (ji46)).f3.f1), .int .i64 ((rd_T31 t2 (ji46)).f3.f2), .int .i64 0, .int .i64 0, .int .i64 0, .int .i64 0]) ?_ 8 _ rfl; (with_reducible repeat (first | refine blk_drewN ?_ _ | refine blk_drew ?_ | refine blk_alloc ?_ _)); refine blk_put (cs := #[.string ((rd_T31 t2 (ji46)).f0), .string ((rd_T31 t2 (ji46)).f1), .int .i64 ((rd_T31 t2 (ji46)).f2.f0), .int .i64 ((rd_T31 t2 (ji46)).f2.f1), .int .i64 ((rd_T31 t2 (ji46)).f2.f2), .int .i64 ((rd_T31 t2 (ji46)).f3.f0), .int .i64 ((rd_T31 t2 (ji46)).f3.f1), .int .i64 0, .int .i64 0, .int .i64 0, .int .i64 0, .int .i64 0]) ?_ 7 _ rfl; (with_reducible repeat (first | refine blk_drewN ?_ _ | refine blk_drew ?_ | refine blk_alloc ?_ _)); refine blk_put (cs := #[.string ((rd_T31 t2 (ji46)).f0), .string ((rd_T31 t2 (ji46)).f1), .int .i64 ((rd_T31 t2 (ji46)).f2.f0), .int .i64 ((rd_T31 t2 (ji46)).f2.f1), .int .i64 ((rd_T31 t2 (ji46)).f2.f2), .int .i64 ((rd_T31 t2 (ji46)).f3.f0), .int .i64 0, .int .i64 0, .int .i64 0, .int .i64 0, .int .i64 0, .int .i64 0]) ?_ 6 _ rfl; (with_reducible repeat (first | refine blk_drewN ?_ _ | refine blk_drew ?_ | refine blk_alloc ?_ _)); refine blk_put (cs := #[.string ((rd_T31 t2 (ji46)).f0), .string ((rd_T31 t2 (ji46)).f1), .int .i64 ((rd_T31 t2 (ji46)).f2.f0), .int .i64 ((rd_T31 t2 (ji46)).f2.f1), .int .i64 ((rd_T31 t2 (ji46)).f2.f2), .int .i64 0, .int .i64 0, .int .i64 0, .int .i64 0, .int .i64 0, .int .i64 0, .int .i64 0]) ?_ 5 _ rfl; (with_reducible repeat (first | refine blk_drewN ?_ _ | refine blk_drew ?_ | refine blk_alloc ?_ _)); refine blk_put (cs := #[.string ((rd_T31 t2 (ji46)).f0), .string ((rd_T31 t2 (ji46)).f1), .int .i64 ((rd_T31 t2 (ji46)).f2.f0), .int .i64 ((rd_T31 t2 (ji46)).f2.f1), .int .i64 0, .int .i64 0, .int .i64 0, .int .i64 0, .int .i64 0, .int .i64 0, .int .i64 0, .int .i64 0]) ?_ 4 _ rfl; (with_reducible repeat (first | refine blk_drewN ?_ _ | refine blk_drew ?_ | refine blk_alloc ?_ _)); refine blk_put (cs := #[.string ((rd_T31 t2 (ji46)).f0), .string ((rd_T31 t2 (ji46)).f1), .int .i64 ((rd_T31 t2 (ji46)).f2.f0), .int .i64 0, .int .i64 0, .int .i64 0, .int .i64 0, .int .i64 0, .int .i64 0, .int .i64 0, .int .i64 0, .int .i64 0]) ?_ 3 _ rfl; (with_reducible repeat (first | refine blk_drewN ?_ _ | refine blk_drew ?_ | refine blk_alloc ?_ _)); refine blk_put (cs := #[.string ((rd_T31 t2 (ji46)).f0), .string ((rd_T31 t2 (ji46)).f1), .int .i64 0, .int .i64 0, .int .i64 0, .int .i64 0, .int .i64 0, .int .i64 0, .int .i64 0, .int .i64 0, .int .i64 0, .int .i64 0]) ?_ 2 _ rfl; (with_reducible repeat (first | refine blk_drewN ?_ _ | refine blk_drew ?_ | refine blk_alloc ?_ _)); refine blk_put (cs := #[.string ((rd_T31 t2 (ji46)).f0), .string (⟨#[]⟩ : ByteArray), .int .i64 0, .int .i64 0, .int .i64 0, .int .i64 0, .int .i64 0, .int .i64 0, .int .i64 0, .int .i64 0, .int .i64 0, .int .i64 0]) ?_ 1 _ rfl; (with_reducible repeat (first | refine blk_drewN ?_ _ | refine blk_drew ?_ | refine blk_alloc ?_ _)); refine blk_put (cs := #[.string (⟨#[]⟩ : ByteArray), .string (⟨#[]⟩ : ByteArray), .int .i64 0, .int .i64 0, .int .i64 0, .int .i64 0, .int .i64 0, .int .i64 0, .int .i64 0, .int .i64 0, .int .i64 0, .int .i64 0]) ?_ 0 _ rfl; (with_reducible repeat (first | refine blk_drewN ?_ _ | refine blk_drew ?_ | refine blk_alloc ?_ _)); exact BK28.out) hb); have n4_ := Aside0.mk (below_step (by repeat (first | (with_reducible first | exact HB.out | apply below_alloc | apply pw_below_drewN | apply below_drew1 | refine below_set ?_ GE5.out | refine below_set ?_ GE28.out) | exact HB.out)) hb); clear HO_5; clear BK5; clear BK28; clear HB; have HO_5 := n0_; have HO31 := n1_; have BK5 := n2_; have BK28 := n3_; have HB := n4_; clear n0_ n1_ n2_ n3_ n4_; clear hb ho77; have hcz78_0 : w76.cell? ⟨gb28, 0, none⟩ = some (.string ((rd_T31 t2 (ji46)).f0)) := (blk_cell BK28.out 0).trans rfl; have hcz78_1 : w76.cell? ⟨gb28, 1, none⟩ = some (.string ((rd_T31 t2 (ji46)).f1)) := (blk_cell BK28.out 1).trans rfl; have hcz78_2 : w76.cell? ⟨gb28, 2, none⟩ = some (.int .i64 ((rd_T31 t2 (ji46)).f2.f0)) := (blk_cell BK28.out 2).trans rfl; have hcz78_3 : w76.cell? ⟨gb28, 3, none⟩ = some (.int .i64 ((rd_T31 t2 (ji46)).f2.f1)) := (blk_cell BK28.out 3).trans rfl; have hcz78_4 : w76.cell? ⟨gb28, 4, none⟩ = some (.int .i64 ((rd_T31 t2 (ji46)).f2.f2)) := (blk_cell BK28.out 4).trans rfl; have hcz78_5 : w76.cell? ⟨gb28, 5, none⟩ = some (.int .i64 ((rd_T31 t2 (ji46)).f3.f0)) := (blk_cell BK28.out 5).trans rfl; have hcz78_6 : w76.cell? ⟨gb28, 6, none⟩ = some (.int .i64 ((rd_T31 t2 (ji46)).f3.f1)) := (blk_cell BK28.out 6).trans rfl; have hcz78_7 : w76.cell? ⟨gb28, 7, none⟩ = some (.int .i64 ((rd_T31 t2 (ji46)).f3.f2)) := (blk_cell BK28.out 7).trans rfl; have hcz78_8 : w76.cell? ⟨gb28, 8, none⟩ = some (.int .i64 ((rd_T31 t2 (ji46)).f4.f0)) := (blk_cell BK28.out 8).trans rfl; have hcz78_9 : w76.cell? ⟨gb28, 9, none⟩ = some (.int .i64 ((rd_T31 t2 (ji46)).f4.f1)) := (blk_cell BK28.out 9).trans rfl; have hcz78_10 : w76.cell? ⟨gb28, 10, none⟩ = some (.int .i64 ((rd_T31 t2 (ji46)).f4.f2)) := (blk_cell BK28.out 10).trans rfl; have hcz78_11 : w76.cell? ⟨gb28, 11, none⟩ = some (.int .i64 ((rd_T31 t2 (ji46)).f5)) := (blk_cell BK28.out 11).trans rfl; have hfz78_0 := blk_frozen BK28.out 0; have hfz78_1 := blk_frozen BK28.out 1; have hfz78_2 := blk_frozen BK28.out 2; have hfz78_3 := blk_frozen BK28.out 3; have hfz78_4 := blk_frozen BK28.out 4; have hfz78_5 := blk_frozen BK28.out 5; have hfz78_6 := blk_frozen BK28.out 6; have hfz78_7 := blk_frozen BK28.out 7; have hfz78_8 := blk_frozen BK28.out 8; have hfz78_9 := blk_frozen BK28.out 9; have hfz78_10 := blk_frozen BK28.out 10; have hfz78_11 := blk_frozen BK28.out 11) | ((with_reducible refine gate_callee (f := 75) rfl ?_); refine goesL_ (some 73) rfl rfl Try.func75 (by kernel_rfl) rfl #[.slice (some ad27) t2.length co9, .string ((rd_T31 t2 (ji46)).f0)] rfl (by (try simp only [List.map_toArray, List.map_cons, List.map_nil]); first | done | (simp only [hji46]; rfl) | rfl | (simp only [List.length_drop, List.length_take]; rfl)) ?_; (with_reducible refine (r10_Below.calls kj20 _ _ t2 ((rd_T31 t2 (ji46)).f0) t32 _ ?side1 ?side2 A49.out).mono ?_); (case side1 => repeat (first | exact (Kd.R_reads' HO_5.out).2.2 | (with_reducible refine Kd.C_alloc ?_ _) | (with_reducible refine Kd.C_drewN ?_ _) | (with_reducible refine Kd.C_drew ?_))); (case side2 => exact (Kd.R_reads' HO_5.out).2.1); rintro e w79 ⟨v33, rfl, ho0, hb⟩; refine ⟨_, rfl, ?_⟩; have n0_ := Aside0.mk (Kd.R_below (by (with_reducible repeat (first | apply Kd.R_alloc | apply Kd.R_drewN | apply Kd.R_drew)); exact HO_5.out) hb); have n1_ := Aside0.mk (Kd.R_elder' (by (with_reducible repeat (first | apply Kd.R_alloc | apply Kd.R_drewN | apply Kd.R_drew)); exact HO31.out) (Kd.R_base ho0) hb); have n2_ := Aside0.mk (Kd.R_lower (Kd.R_new' ho0 (Kd.R_lt (by (with_reducible repeat (first | apply Kd.R_alloc | apply Kd.R_drewN | apply Kd.R_drew)); exact HO31.out))) (below_size (by repeat (first | (with_reducible first | exact HB.out | apply below_alloc | apply pw_below_drewN | apply below_drew1 | refine below_set ?_ GE5.out | refine below_set ?_ GE28.out) | exact HB.out)))); have n3_ := Aside0.mk (blk_below (g := gb5) (o := .cells #[.int .i64 x6000_1, .int .i64 x6001_1, .int .i64 x6002_1] 27 (0, 0)) (by (with_reducible repeat (first | refine blk_drewN ?_ _ | refine blk_drew ?_ | refine blk_alloc ?_ _)); exact BK5.out) hb); have n4_ := Aside0.mk (blk_below (g := gb28) (o := .cells #[.string ((rd_T31 t2 (ji46)).f0), .string ((rd_T31 t2 (ji46)).f1), .int .i64 ((rd_T31 t2 (ji46)).f2.f0), .int .i64 ((rd_T31 t2 (ji46)).f2.f1), .int .i64 ((rd_T31 t2 (ji46)).f2.f2), .int .i64 ((rd_T31 t2 (ji46)).f3.f0), .int .i64 ((rd_T31 t2 (ji46)).f3.f1), .int .i64 ((rd_T31 t2 (ji46)).f3.f2), .int .i64 ((rd_T31 t2 (ji46)).f4.f0), .int .i64 ((rd_T31 t2 (ji46)).f4.f1), .int .i64 ((rd_T31 t2 (ji46)).f4.f2), .int .i64 ((rd_T31 t2 (ji46)).f5)] 31 (0, 0)) (by (with_reducible repeat (first | refine blk_drewN ?_ _ | refine blk_drew ?_ | refine blk_alloc ?_ _)); exact BK28.out) hb); have n5_ := Aside0.mk (below_step (by repeat (first | (with_reducible first | exact HB.out | apply below_alloc | apply pw_below_drewN | apply below_drew1 | refine below_set ?_ GE5.out | refine below_set ?_ GE28.out) | exact HB.out)) hb); clear HO_5; clear HO31; clear BK5; clear BK28; clear HB; have HO_5 := n0_; have HO31 := n1_; have HO34 := n2_; have BK5 := n3_; have BK28 := n4_; have HB := n5_; clear n0_ n1_ n2_ n3_ n4_ n5_; (try clear hb); (try clear hb2); (try clear hk); (try clear hi); (try clear ho0); obtain ⟨Ao81, co81, eo81⟩ := Kd.R_slice HO34.out; subst eo81) | ((with_reducible refine gate_builtin (b := .append) (xs := #[.tmp 69, .tmp 73]) rfl ?_); (try (refine gate_guard (by rfl) ?_; dsimp only)); at_builtin; refine Kd.R_append_rows Kd.string (w0 := w) w.heap.size rfl (.tmp 69) (.tmp 73) 74 9 (.string ⟨#[]⟩) 16 rfl Try.underlying74 info9 rfl (by decide) (by omega) v30 y29 t32 _ _ _ (fun k_ => some k_ ≠ (.slice Ao81 t32.length co81 : Value).ownBlock) (fun _ => False) rfl rfl ?aO ?aR (fun _ _ h => h) (fun _ h => h.elim) ?aF ?aB ?aS ?aL ?_; (case aR => repeat (first | exact (Kd.R_reads' HO34.out).2.2 | (with_reducible refine Kd.C_alloc ?_ _) | (with_reducible refine Kd.C_drewN ?_ _) | (with_reducible refine Kd.C_drew ?_))); (case aB => exact (by repeat (first | (with_reducible first | exact HB.out | apply below_alloc | apply pw_below_drewN | apply below_drew1 | refine below_set ?_ GE5.out | refine below_set ?_ GE28.out) | exact HB.out))); (case aF => exact (fun k_ hk => Kd.fresh' (Kd.R_lt (by (with_reducible repeat (first | apply Kd.R_alloc | apply Kd.R_drewN | apply Kd.R_drew)); exact HO34.out)) k_ hk)); (case aO => exact (by (with_reducible repeat (first | apply Kd.R_alloc | apply Kd.R_drewN | apply Kd.R_drew)); exact Kd.R_mono HO31.out (fun _ hk => hk.2))); (case aS => exact (below_size (by repeat (first | (with_reducible first | exact HB.out | apply below_alloc | apply pw_below_drewN | apply below_drew1 | refine below_set ?_ GE5.out | refine below_set ?_ GE28.out) | exact HB.out)))); (case aL => have := LMc50.out; omega); intro v36 w80 ho hb hg hat; rw [← Ny35.out] at ho; have n0_ := Aside0.mk (Kd.R_over' (by (with_reducible repeat (first | apply Kd.R_alloc | apply Kd.R_drewN | apply Kd.R_drew)); exact HO_5.out) (Kd.R_typed (by (with_reducible repeat (first | apply Kd.R_alloc | apply Kd.R_drewN | apply Kd.R_drew)); exact HO31.out)) (by decide) hg); have n1_ := Aside0.mk (blk_grown (g := gb5) (o := .cells #[.int .i64 x6000_1, .int .i64 x6001_1, .int .i64 x6002_1] 27 (0, 0)) (by (with_reducible repeat (first | refine blk_drewN ?_ _ | refine blk_drew ?_ | refine blk_alloc ?_ _)); exact BK5.out) hg (Kd.R_ne HO31.out BK5.out (by decide))); have n2_ := Aside0.mk (blk_grown (g := gb28) (o := .cells #[.string ((rd_T31 t2 (ji46)).f0), .string ((rd_T31 t2 (ji46)).f1), .int .i64 ((rd_T31 t2 (ji46)).f2.f0), .int .i64 ((rd_T31 t2 (ji46)).f2.f1), .int .i64 ((rd_T31 t2 (ji46)).f2.f2), .int .i64 ((rd_T31 t2 (ji46)).f3.f0), .int .i64 ((rd_T31 t2 (ji46)).f3.f1), .int .i64 ((rd_T31 t2 (ji46)).f3.f2), .int .i64 ((rd_T31 t2 (ji46)).f4.f0), .int .i64 ((rd_T31 t2 (ji46)).f4.f1), .int .i64 ((rd_T31 t2 (ji46)).f4.f2), .int .i64 ((rd_T31 t2 (ji46)).f5)] 31 (0, 0)) (by (with_reducible repeat (first | refine blk_drewN ?_ _ | refine blk_drew ?_ | refine blk_alloc ?_ _)); exact BK28.out) hg (Kd.R_ne HO31.out BK28.out (by decide))); have n3_ := Aside0.mk (Kd.R_after (ok := (fun _ => True)) (by (with_reducible repeat (first | apply Kd.R_alloc | apply Kd.R_drewN | apply Kd.R_drew)); exact HO34.out) hg hat); have n4_ := Aside0.mk (hb); have n5_ := Aside0.mk (ho); clear HO_5; clear BK5; clear BK28; clear HO34; clear HB; clear HO31; have HO_5 := n0_; have BK5 := n1_; have BK28 := n2_; have HO34 := n3_; have HB := n4_; have HO37 := n5_; clear n0_ n1_ n2_ n3_ n4_ n5_; clear ho hb hg hat; have hcz82_0 : w80.cell? ⟨gb28, 0, none⟩ = some (.string ((rd_T31 t2 (ji46)).f0)) := (blk_cell BK28.out 0).trans rfl; have hcz82_1 : w80.cell? ⟨gb28, 1, none⟩ = some (.string ((rd_T31 t2 (ji46)).f1)) := (blk_cell BK28.out 1).trans rfl; have hcz82_2 : w80.cell? ⟨gb28, 2, none⟩ = some (.int .i64 ((rd_T31 t2 (ji46)).f2.f0)) := (blk_cell BK28.out 2).trans rfl; have hcz82_3 : w80.cell? ⟨gb28, 3, none⟩ = some (.int .i64 ((rd_T31 t2 (ji46)).f2.f1)) := (blk_cell BK28.out 3).trans rfl; have hcz82_4 : w80.cell? ⟨gb28, 4, none⟩ = some (.int .i64 ((rd_T31 t2 (ji46)).f2.f2)) := (blk_cell BK28.out 4).trans rfl; have hcz82_5 : w80.cell? ⟨gb28, 5, none⟩ = some (.int .i64 ((rd_T31 t2 (ji46)).f3.f0)) := (blk_cell BK28.out 5).trans rfl; have hcz82_6 : w80.cell? ⟨gb28, 6, none⟩ = some (.int .i64 ((rd_T31 t2 (ji46)).f3.f1)) := (blk_cell BK28.out 6).trans rfl; have hcz82_7 : w80.cell? ⟨gb28, 7, none⟩ = some (.int .i64 ((rd_T31 t2 (ji46)).f3.f2)) := (blk_cell BK28.out 7).trans rfl; have hcz82_8 : w80.cell? ⟨gb28, 8, none⟩ = some (.int .i64 ((rd_T31 t2 (ji46)).f4.f0)) := (blk_cell BK28.out 8).trans rfl; have hcz82_9 : w80.cell? ⟨gb28, 9, none⟩ = some (.int .i64 ((rd_T31 t2 (ji46)).f4.f1)) := (blk_cell BK28.out 9).trans rfl; have hcz82_10 : w80.cell? ⟨gb28, 10, none⟩ = some (.int .i64 ((rd_T31 t2 (ji46)).f4.f2)) := (blk_cell BK28.out 10).trans rfl; have hcz82_11 : w80.cell? ⟨gb28, 11, none⟩ = some (.int .i64 ((rd_T31 t2 (ji46)).f5)) := (blk_cell BK28.out 11).trans rfl; have hfz82_0 := blk_frozen BK28.out 0; have hfz82_1 := blk_frozen BK28.out 1; have hfz82_2 := blk_frozen BK28.out 2; have hfz82_3 := blk_frozen BK28.out 3; have hfz82_4 := blk_frozen BK28.out 4; have hfz82_5 := blk_frozen BK28.out 5; have hfz82_6 := blk_frozen BK28.out 6; have hfz82_7 := blk_frozen BK28.out 7; have hfz82_8 := blk_frozen BK28.out 8; have hfz82_9 := blk_frozen BK28.out 9; have hfz82_10 := blk_frozen BK28.out 10; have hfz82_11 := blk_frozen BK28.out 11) | ((with_reducible refine gate_dst (N := 80) rfl ?_); (try (refine gate_guard (by rfl) ?_; dsimp only)); refine Kd.R_lit Kd.string _ 9 ?hg (N := 80) ?hd (xs := ([(rd_T31 t2 (ji46)).f0, (rd_T31 t2 (ji46)).f0] : List ByteArray)) (inner := [.string ((rd_T31 t2 (ji46)).f0), .string ((rd_T31 t2 (ji46)).f0)]) (ok := fun _ => True) (okp := fun _ => True) ?hr ?hp (fun _ hk => hk) trivial (Below.refl _ _) (Nat.le_refl _) (by simp) ?_; (case hd => rfl); (case hg => rfl); (case hr => first | (go_simp; done) | (go_simp; rfl)); (case hp => exact (Reps.one (show Kd.M Kd.string _ _ _ ((rd_T31 t2 (ji46)).f0) [.string ((rd_T31 t2 (ji46)).f0)] from rfl) (Reps.one (show Kd.M Kd.string _ _ _ ((rd_T31 t2 (ji46)).f0) [.string ((rd_T31 t2 (ji46)).f0)] from rfl) (Reps.none _ _)))); intro v39 w83 ho84 hb hg_ hnew_; clear hg_ hnew_; (first | rw [← Ny38.out] at ho84 | (simp only [Int.reduceToNat] at ho84; rw [← Ny38.out] at ho84)); have n0_ := Aside0.mk (Kd.R_below (by (with_reducible repeat (first | apply Kd.R_alloc | apply Kd.R_drewN | apply Kd.R_drew)); exact HO_5.out) hb); have n1_ := Aside0.mk (Kd.R_elder' (by (with_reducible repeat (first | apply Kd.R_alloc | apply Kd.R_drewN | apply Kd.R_drew)); exact HO34.out) (Kd.R_base ho84) hb); have n2_ := Aside0.mk (Kd.R_elder' (by (with_reducible repeat (first | apply Kd.R_alloc | apply Kd.R_drewN | apply Kd.R_drew)); exact HO37.out) (Kd.R_base ho84) hb); have n3_ := Aside0.mk (Kd.R_lower (Kd.R_new' (Kd.R_new' ho84 (Kd.R_lt (by (with_reducible repeat (first | apply Kd.R_alloc | apply Kd.R_drewN | apply Kd.R_drew)); exact HO34.out))) (Kd.R_lt (by (with_reducible repeat (first | apply Kd.R_alloc | apply Kd.R_drewN | apply Kd.R_drew)); exact HO37.out))) (below_size (by repeat (first | (with_reducible first | exact HB.out | apply below_alloc | apply pw_below_drewN | apply below_drew1 | refine below_set ?_ GE5.out | refine below_set ?_ GE28.out) | exact HB.out)))); have n4_ := Aside0.mk (blk_below (g := gb5) (o := .cells #[.int .i64 x6000_1, .int .i64 x6001_1, .int .i64 x6002_1] 27 (0, 0)) (by (with_reducible repeat (first | refine blk_drewN ?_ _ | refine blk_drew ?_ | refine blk_alloc ?_ _)); exact BK5.out) hb); have n5_ := Aside0.mk (blk_below (g := gb28) (o := .cells #[.string ((rd_T31 t2 (ji46)).f0), .string ((rd_T31 t2 (ji46)).f1), .int .i64 ((rd_T31 t2 (ji46)).f2.f0), .int .i64 ((rd_T31 t2 (ji46)).f2.f1), .int .i64 ((rd_T31 t2 (ji46)).f2.f2), .int .i64 ((rd_T31 t2 (ji46)).f3.f0), .int .i64 ((rd_T31 t2 (ji46)).f3.f1), .int .i64 ((rd_T31 t2 (ji46)).f3.f2), .int .i64 ((rd_T31 t2 (ji46)).f4.f0), .int .i64 ((rd_T31 t2 (ji46)).f4.f1), .int .i64 ((rd_T31 t2 (ji46)).f4.f2), .int .i64 ((rd_T31 t2 (ji46)).f5)] 31 (0, 0)) (by (with_reducible repeat (first | refine blk_drewN ?_ _ | refine blk_drew ?_ | refine blk_alloc ?_ _)); exact BK28.out) hb); have n6_ := Aside0.mk (below_step (by repeat (first | (with_reducible first | exact HB.out | apply below_alloc | apply pw_below_drewN | apply below_drew1 | refine below_set ?_ GE5.out | refine below_set ?_ GE28.out) | exact HB.out)) hb); clear HO_5; clear HO34; clear HO37; clear BK5; clear BK28; clear HB; have HO_5 := n0_; have HO34 := n1_; have HO37 := n2_; have HO40 := n3_; have BK5 := n4_; have BK28 := n5_; have HB := n6_; clear n0_ n1_ n2_ n3_ n4_ n5_ n6_; clear hb ho84; obtain ⟨Ao86, co86, eo86⟩ := Kd.R_slice HO40.out; subst eo86) | ((with_reducible refine gate_builtin (b := .append) (xs := #[.tmp 75, .tmp 80]) rfl ?_); (try (refine gate_guard (by rfl) ?_; dsimp only)); at_builtin; refine Kd.R_append_rows Kd.string (w0 := w) w.heap.size rfl (.tmp 75) (.tmp 80) 74 9 (.string ⟨#[]⟩) 16 rfl Try.underlying74 info9 rfl (by decide) (by omega) v36 y35 y38 _ _ _ (fun k_ => some k_ ≠ (.slice Ao81 t32.length co81 : Value).ownBlock ∧ some k_ ≠ (.slice Ao86 y38.length co86 : Value).ownBlock) (fun _ => False) rfl rfl ?aO ?aR (fun _ _ h => h) (fun _ h => h.elim) ?aF ?aB ?aS ?aL ?_; (case aR => repeat (first | exact (Kd.R_reads' HO40.out).2.2 | (with_reducible refine Kd.C_alloc ?_ _) | (with_reducible refine Kd.C_drewN ?_ _) | (with_reducible refine Kd.C_drew ?_))); (case aB => exact (by repeat (first | (with_reducible first | exact HB.out | apply below_alloc | apply pw_below_drewN | apply below_drew1 | refine below_set ?_ GE5.out | refine below_set ?_ GE28.out) | exact HB.out))); (case aF => exact (fun k_ hk => ⟨Kd.fresh' (Kd.R_lt (by (with_reducible repeat (first | apply Kd.R_alloc | apply Kd.R_drewN | apply Kd.R_drew)); exact HO34.out)) k_ hk, Kd.fresh' (Kd.R_lt (by (with_reducible repeat (first | apply Kd.R_alloc | apply Kd.R_drewN | apply Kd.R_drew)); exact HO40.out)) k_ hk⟩)); (case aO => exact (by (with_reducible repeat (first | apply Kd.R_alloc | apply Kd.R_drewN | apply Kd.R_drew)); exact HO37.out)); (case aS => exact (below_size (by repeat (first | (with_reducible first | exact HB.out | apply below_alloc | apply pw_below_drewN | apply below_drew1 | refine below_set ?_ GE5.out | refine below_set ?_ GE28.out) | exact HB.out)))); (case aL => have := LMc51.out; omega); intro v42 w85 ho hb hg hat; rw [← Ny41.out] at ho; have n0_ := Aside0.mk (Kd.R_over' (by (with_reducible repeat (first | apply Kd.R_alloc | apply Kd.R_drewN | apply Kd.R_drew)); exact HO_5.out) (Kd.R_typed (by (with_reducible repeat (first | apply Kd.R_alloc | apply Kd.R_drewN | apply Kd.R_drew)); exact HO37.out)) (by decide) hg); have n1_ := Aside0.mk (blk_grown (g := gb5) (o := .cells #[.int .i64 x6000_1, .int .i64 x6001_1, .int .i64 x6002_1] 27 (0, 0)) (by (with_reducible repeat (first | refine blk_drewN ?_ _ | refine blk_drew ?_ | refine blk_alloc ?_ _)); exact BK5.out) hg (Kd.R_ne HO37.out BK5.out (by decide))); have n2_ := Aside0.mk (blk_grown (g := gb28) (o := .cells #[.string ((rd_T31 t2 (ji46)).f0), .string ((rd_T31 t2 (ji46)).f1), .int .i64 ((rd_T31 t2 (ji46)).f2.f0), .int .i64 ((rd_T31 t2 (ji46)).f2.f1), .int .i64 ((rd_T31 t2 (ji46)).f2.f2), .int .i64 ((rd_T31 t2 (ji46)).f3.f0), .int .i64 ((rd_T31 t2 (ji46)).f3.f1), .int .i64 ((rd_T31 t2 (ji46)).f3.f2), .int .i64 ((rd_T31 t2 (ji46)).f4.f0), .int .i64 ((rd_T31 t2 (ji46)).f4.f1), .int .i64 ((rd_T31 t2 (ji46)).f4.f2), .int .i64 ((rd_T31 t2 (ji46)).f5)] 31 (0, 0)) (by (with_reducible repeat (first | refine blk_drewN ?_ _ | refine blk_drew ?_ | refine blk_alloc ?_ _)); exact BK28.out) hg (Kd.R_ne HO37.out BK28.out (by decide))); have n3_ := Aside0.mk (Kd.R_after (ok := (fun k_ => some k_ ≠ (.slice Ao86 y38.length co86 : Value).ownBlock)) (by (with_reducible repeat (first | apply Kd.R_alloc | apply Kd.R_drewN | apply Kd.R_drew)); exact Kd.R_mono HO34.out (fun _ hk => ⟨hk.2, hk.1.2⟩)) hg hat); have n4_ := Aside0.mk (Kd.R_after (ok := (fun k_ => some k_ ≠ (.slice Ao81 t32.length co81 : Value).ownBlock)) (by (with_reducible repeat (first | apply Kd.R_alloc | apply Kd.R_drewN | apply Kd.R_drew)); exact Kd.R_mono HO40.out (fun _ hk => ⟨hk.1.2, hk.2⟩)) hg hat); have n5_ := Aside0.mk (hb); have n6_ := Aside0.mk (ho); clear HO_5; clear BK5; clear BK28; clear HO34; clear HO40; clear HB; clear HO37; have HO_5 := n0_; have BK5 := n1_; have BK28 := n2_; have HO34 := n3_; have HO40 := n4_; have HB := n5_; have HO43 := n6_; clear n0_ n1_ n2_ n3_ n4_ n5_ n6_; clear ho hb hg hat))
              have n0_ := Aside0.mk (Kd.R_drew HO_5.out)
              have n1_ := Aside0.mk (Kd.R_drew HO34.out)
              have n2_ := Aside0.mk (Kd.R_drew HO40.out)
              have n3_ := Aside0.mk (Kd.R_drew HO43.out)
              have n4_ := Aside0.mk (blk_drew BK5.out)
              have n5_ := Aside0.mk (blk_drew BK28.out)
              have n6_ := Aside0.mk (below_drew1 HB.out)
              clear HO_5
              clear HO34
              clear HO40
              clear HO43
              clear BK5
              clear BK28
              clear HB
              have HO_5 := n0_
              have HO34 := n1_
              have HO40 := n2_
              have HO43 := n3_
              have BK5 := n4_
              have BK28 := n5_
              have HB := n6_
              clear n0_ n1_ n2_ n3_ n4_ n5_ n6_
              obtain ⟨Ao88, co88, eo88⟩ := Kd.R_slice HO43.out
              (first | subst eo88 | (injection eo88 with f1_ f2_ f3_; have f4_ := f1_.symm; have f5_ := f3_.symm; clear f1_ f2_ f3_; subst f4_; subst f5_))
              refine start_ (n := 10) (S := fun w' => w'.cell? ⟨gb28, 0, none⟩ = some (.string ((rd_T31 t2 (ji46)).f0)) ∧ w'.cell? ⟨gb28, 1, none⟩ = some (.string ((rd_T31 t2 (ji46)).f1)) ∧ w'.cell? ⟨gb28, 2, none⟩ = some (.int .i64 ((rd_T31 t2 (ji46)).f2.f0)) ∧ w'.cell? ⟨gb28, 3, none⟩ = some (.int .i64 ((rd_T31 t2 (ji46)).f2.f1)) ∧ w'.cell? ⟨gb28, 4, none⟩ = some (.int .i64 ((rd_T31 t2 (ji46)).f2.f2)) ∧ w'.cell? ⟨gb28, 5, none⟩ = some (.int .i64 ((rd_T31 t2 (ji46)).f3.f0)) ∧ w'.cell? ⟨gb28, 6, none⟩ = some (.int .i64 ((rd_T31 t2 (ji46)).f3.f1)) ∧ w'.cell? ⟨gb28, 7, none⟩ = some (.int .i64 ((rd_T31 t2 (ji46)).f3.f2)) ∧ w'.cell? ⟨gb28, 8, none⟩ = some (.int .i64 ((rd_T31 t2 (ji46)).f4.f0)) ∧ w'.cell? ⟨gb28, 9, none⟩ = some (.int .i64 ((rd_T31 t2 (ji46)).f4.f1)) ∧ w'.cell? ⟨gb28, 10, none⟩ = some (.int .i64 ((rd_T31 t2 (ji46)).f4.f2)) ∧ w'.cell? ⟨gb28, 11, none⟩ = some (.int .i64 ((rd_T31 t2 (ji46)).f5))) (ds := []) #[false, false, false, false, false, false, false, false, false, false] (by kernel_rfl) rfl rfl ⟨(blk_cell BK28.out 0).trans rfl, (blk_cell BK28.out 1).trans rfl, (blk_cell BK28.out 2).trans rfl, (blk_cell BK28.out 3).trans rfl, (blk_cell BK28.out 4).trans rfl, (blk_cell BK28.out 5).trans rfl, (blk_cell BK28.out 6).trans rfl, (blk_cell BK28.out 7).trans rfl, (blk_cell BK28.out 8).trans rfl, (blk_cell BK28.out 9).trans rfl, (blk_cell BK28.out 10).trans rfl, (blk_cell BK28.out 11).trans rfl⟩ (fun hHeld => ?_); refine with_tabW law13_RoomShares.tab18 law13_RoomShares.bits18 (fun HT_ HW_ => ?_)
              generalize w85.drew = w87 at HO_5 HO34 HO40 HO43 BK5 BK28 HB hHeld ⊢
              refine pure_ (i := 0) (N := some 82) (v := ?_) (a' := ?_) #[true, false, false, false, false, false, false, false, false, false] rfl rfl (any_of HT_.out (by kernel_rfl)) (fun _ _ _ h => h) (Or.inl ⟨by rfl, ?_⟩) ?_ ?_
              rotate_left
              ·intro w'
               go_simp
               with_reducible rfl
              rotate_left
              ·simp only [Act.put, List.setIfInBounds_toArray, List.set_cons_zero, List.set_cons_succ, i64_w, i32_w]
               rfl
              refine pure_ (i := 1) (N := some 83) (v := ?_) (a' := ?_) #[true, true, false, false, false, false, false, false, false, false] rfl rfl (any_of HT_.out (by kernel_rfl)) (fun _ _ _ h => h) (Or.inl ⟨by rfl, ?_⟩) ?_ ?_
              rotate_left
              ·intro w'
               go_simp
               with_reducible rfl
              rotate_left
              ·simp only [Act.put, List.setIfInBounds_toArray, List.set_cons_zero, List.set_cons_succ, i64_w, i32_w]
               rfl
              refine pure_ (i := 3) (N := some 85) (v := ?_) (a' := ?_) #[true, true, false, true, false, false, false, false, false, false] rfl rfl (any_of HT_.out (by kernel_rfl)) (fun _ _ _ h => h) (Or.inl ⟨by rfl, ?_⟩) ?_ ?_
              rotate_left
              ·intro w'
               go_simp
               with_reducible rfl
              rotate_left
              ·simp only [Act.put, List.setIfInBounds_toArray, List.set_cons_zero, List.set_cons_succ, i64_w, i32_w]
               rfl
              refine take_ (i := 4) (N := some 86) (v := ?_) (a' := ?_) #[true, true, false, true, true, false, false, false, false, false] rfl rfl (take_ofW HT_.out HW_.out (by kernel_rfl)) (fun _ _ _ h => h) (Or.inl ⟨by rfl, ?_⟩) hHeld ?_ ?_
              rotate_left
              ·rintro w' ⟨s0, s1, s2, s3, s4, s5, s6, s7, s8, s9, s10, s11⟩
               go_simp
               with_reducible rfl
              rotate_left
              ·simp only [Act.put, List.setIfInBounds_toArray, List.set_cons_zero, List.set_cons_succ, i64_w, i32_w]
               rfl
              refine one_ (i := 2) (N := some 84) #[true, true, true, true, true, false, false, false, false, false] rfl rfl (one_of HT_.out (by kernel_rfl)) (by decide) (fun K hK => ?_)
              refine goes_ Try.func74 (by kernel_rfl) rfl #[.slice (some ad27) t2.length co9, .slice Ao88 y41.length co88] (by rfl) rfl rfl (by (try simp only [List.map_toArray, List.map_cons, List.map_nil]); first | done | rfl | (simp only [List.length_drop, List.length_take]; rfl)) ?_
              with_reducible refine (room_Share.calls kj20 _ _ t2 _ _ y41 t44 t45 t46 _ ?side1 ?side2 ?side3 ?side4 A52.out).mono ?_
              (case side1 => repeat (first | exact (Kd.R_reads' HO_5.out).2.2 | (with_reducible refine Kd.C_alloc ?_ _) | (with_reducible refine Kd.C_drewN ?_ _) | (with_reducible refine Kd.C_drew ?_)))
              (case side2 => exact (Kd.R_reads' HO_5.out).2.1)
              (case side3 => repeat (first | exact (Kd.R_reads' HO43.out).2.2 | (with_reducible refine Kd.C_alloc ?_ _) | (with_reducible refine Kd.C_drewN ?_ _) | (with_reducible refine Kd.C_drew ?_)))
              (case side4 => exact (Kd.R_reads' HO43.out).2.1)
              rintro e w89 ⟨rfl, hb⟩
              refine ⟨_, rfl, ?_⟩
              have n0_ := Aside0.mk (Kd.R_below (by (with_reducible repeat (first | apply Kd.R_alloc | apply Kd.R_drewN | apply Kd.R_drew)); exact HO_5.out) hb)
              have n1_ := Aside0.mk (Kd.R_below (by (with_reducible repeat (first | apply Kd.R_alloc | apply Kd.R_drewN | apply Kd.R_drew)); exact HO34.out) hb)
              have n2_ := Aside0.mk (Kd.R_below (by (with_reducible repeat (first | apply Kd.R_alloc | apply Kd.R_drewN | apply Kd.R_drew)); exact HO40.out) hb)
              have n3_ := Aside0.mk (Kd.R_below (by (with_reducible repeat (first | apply Kd.R_alloc | apply Kd.R_drewN | apply Kd.R_drew)); exact HO43.out) hb)
              have n4_ := Aside0.mk (blk_below (g := gb5) (o := .cells #[.int .i64 x6000_1, .int .i64 x6001_1, .int .i64 x6002_1] 27 (0, 0)) (by (with_reducible repeat (first | refine blk_drewN ?_ _ | refine blk_drew ?_ | refine blk_alloc ?_ _)); exact BK5.out) hb)
              have n5_ := Aside0.mk (blk_below (g := gb28) (o := .cells #[.string ((rd_T31 t2 (ji46)).f0), .string ((rd_T31 t2 (ji46)).f1), .int .i64 ((rd_T31 t2 (ji46)).f2.f0), .int .i64 ((rd_T31 t2 (ji46)).f2.f1), .int .i64 ((rd_T31 t2 (ji46)).f2.f2), .int .i64 ((rd_T31 t2 (ji46)).f3.f0), .int .i64 ((rd_T31 t2 (ji46)).f3.f1), .int .i64 ((rd_T31 t2 (ji46)).f3.f2), .int .i64 ((rd_T31 t2 (ji46)).f4.f0), .int .i64 ((rd_T31 t2 (ji46)).f4.f1), .int .i64 ((rd_T31 t2 (ji46)).f4.f2), .int .i64 ((rd_T31 t2 (ji46)).f5)] 31 (0, 0)) (by (with_reducible repeat (first | refine blk_drewN ?_ _ | refine blk_drew ?_ | refine blk_alloc ?_ _)); exact BK28.out) hb)
              have n6_ := Aside0.mk (below_step (by repeat (first | (with_reducible first | exact HB.out | apply below_alloc | apply pw_below_drewN | apply below_drew1 | refine below_set ?_ GE5.out | refine below_set ?_ GE28.out) | exact HB.out)) hb)
              clear HO_5
              clear HO34
              clear HO40
              clear HO43
              clear BK5
              clear BK28
              clear HB
              have HO_5 := n0_
              have HO34 := n1_
              have HO40 := n2_
              have HO43 := n3_
              have BK5 := n4_
              have BK28 := n5_
              have HB := n6_
              clear n0_ n1_ n2_ n3_ n4_ n5_ n6_
              (try clear hb)
              (try clear hb2)
              (try clear hk)
              (try clear hi)
              refine hK.out _ _ ⟨(blk_cell BK28.out 0).trans rfl, (blk_cell BK28.out 1).trans rfl, (blk_cell BK28.out 2).trans rfl, (blk_cell BK28.out 3).trans rfl, (blk_cell BK28.out 4).trans rfl, (blk_cell BK28.out 5).trans rfl, (blk_cell BK28.out 6).trans rfl, (blk_cell BK28.out 7).trans rfl, (blk_cell BK28.out 8).trans rfl, (blk_cell BK28.out 9).trans rfl, (blk_cell BK28.out 10).trans rfl, (blk_cell BK28.out 11).trans rfl⟩ (fun hHeld => ?_)
              clear hK K
              refine norm_ (a' := ?_) ?_ ?_
              rotate_left
              ·show Act.put _ (some 84) _ = _
               simp only [Act.put, List.setIfInBounds_toArray, List.set_cons_zero, List.set_cons_succ, i64_w, i32_w]
               rfl
              refine pure_ (i := 5) (N := some 87) (v := ?_) (a' := ?_) #[true, true, true, true, true, true, false, false, false, false] rfl rfl (any_of HT_.out (by kernel_rfl)) (fun _ _ _ h => h) (Or.inl ⟨by rfl, ?_⟩) ?_ ?_
              rotate_left
              ·intro w'
               go_simp
               with_reducible rfl
              rotate_left
              ·simp only [Act.put, List.setIfInBounds_toArray, List.set_cons_zero, List.set_cons_succ, i64_w, i32_w]
               rfl
              refine pure_ (i := 6) (N := some 88) (v := ?_) (a' := ?_) #[true, true, true, true, true, true, true, false, false, false] rfl rfl (any_of HT_.out (by kernel_rfl)) (fun _ _ _ h => h) (Or.inl ⟨by rfl, ?_⟩) ?_ ?_
              rotate_left
              ·intro w'
               go_simp
               with_reducible rfl
              rotate_left
              ·simp only [Act.put, List.setIfInBounds_toArray, List.set_cons_zero, List.set_cons_succ, i64_w, i32_w]
               rfl
              refine pure_ (i := 7) (N := some 89) (v := undef) (a' := ?_) #[true, true, true, true, true, true, true, true, false, false] rfl rfl (any_of HT_.out (by kernel_rfl)) (fun _ _ _ h => h) (Or.inr ⟨by rfl, rfl⟩) ?_ ?_
              rotate_left
              ·simp only [Act.put, List.setIfInBounds_toArray, List.set_cons_zero, List.set_cons_succ, i64_w, i32_w]
               rfl
              refine pure_ (i := 8) (N := some 90) (v := ?_) (a' := ?_) #[true, true, true, true, true, true, true, true, true, false] rfl rfl (any_of HT_.out (by kernel_rfl)) (fun _ _ _ h => h) (Or.inl ⟨by rfl, ?_⟩) ?_ ?_
              rotate_left
              ·intro w'
               go_simp
               with_reducible rfl
              rotate_left
              ·simp only [Act.put, List.setIfInBounds_toArray, List.set_cons_zero, List.set_cons_succ, i64_w, i32_w]
               rfl
              refine pure_ (i := 9) (N := some 4) (v := ?_) (a' := ?_) #[true, true, true, true, true, true, true, true, true, true] rfl rfl (any_of HT_.out (by kernel_rfl)) (fun _ _ _ h => h) (Or.inl ⟨by rfl, ?_⟩) ?_ ?_
              rotate_left
              ·intro w'
               go_simp
               with_reducible rfl
              rotate_left
              ·simp only [Act.put, List.setIfInBounds_toArray, List.set_cons_zero, List.set_cons_succ, i64_w, i32_w]
               rfl
              refine done_ (done_of HT_.out (by kernel_rfl)) ?_
              try go_wp2
              go_ret
              exact ⟨by first | rfl | (simp [errW_none, errW_some] <;> rfl) | (simp only [← hji46]; first | rfl | (simp [errW_none, errW_some] <;> rfl)) | (simp [*, errW_none, errW_some] <;> rfl), by repeat (first | (with_reducible first | exact HB.out | apply below_alloc | apply pw_below_drewN | apply below_drew1 | refine below_set ?_ GE5.out | refine below_set ?_ GE28.out) | exact HB.out)⟩
            ·rw [if_neg c51] at H
             exact absurd H (by simp)
           ·rw [if_neg c50] at H
            exact absurd H (by simp)
          ·rw [if_neg c48] at H
           exact absurd H (by simp)
         ·rw [if_neg c47] at H
          exact absurd H (by simp)
/-- THE ONE PURE STATEMENT of law13_RoomShares: yours. -/
def law13_RoomShares.Pure : Prop := ∀ (l0 : List Int) (a1 : Int), l0.length ≤ maxLen → l0.length * 1 ≤ 140737488351232 → (∀ x ∈ l0, (Lit.int .u8 x).wf = true) → (Lit.int .u8 a1).wf = true → ∃ k, law13_RoomShares.f k l0 a1 = some true
theorem law13_RoomShares.walk (P : law13_RoomShares.Pure) (a0 : Option Addr) (len0 cap0 : Nat) (z0 : List Int) (a1 : Int) (w : World) (w0 : (a0 = none ∧ len0 = 0 ∧ cap0 = 0 ∧ z0 = []) ∨ ∃ x, a0 = some x ∧ len0 ≤ cap0 ∧ cap0 ≤ maxLen ∧ z0.length = cap0 ∧ (∀ i, i < z0.length → w.cell? (x.add i) = some (.int .u8 (z0.getD i 0))) ∧ ∀ n ∈ z0, (Lit.int .u8 n).wf = true) (y0 : len0 * 1 ≤ 140737488351232) (w1 : (Lit.int .u8 a1).wf = true) :
  Calls Try.prog 15 #[.slice a0 len0 cap0, .int .u8 a1] w fun e w' => e = .returned (.bool true) ∧ Below w.heap.size w w' := by
 obtain ⟨l0, rfl, hr0, hm0, hw0, hc0⟩ := ReadsInt.ofRowC w0
 obtain ⟨k, h⟩ := P l0 a1 hm0 y0 hw0 w1
 refine (law13_RoomShares.calls k _ _ l0 a1 true w (Kd.C_of_reads (d := (0 : Int)) (h1 := fun _ => rfl) hr0) hc0 h).mono ?_
 rintro e w' ⟨rfl, hd⟩
 exact ⟨rfl, hd⟩
end Go.Proofs.Ytcgefpklljclgaa.Print

namespace Go.Proofs.Ytcgefpklljclgaa.Print
open Go.RowKit Go.Proofs.YtcgefpklljclgaaW.PrintWords Go.Proofs.YtcgefpklljclgaaW.PrintLast
set_option linter.unusedVariables false
set_option linter.unusedSimpArgs false
abbrev Item := S31
abbrev Vec := S27
abbrev zItem : Item := z31
theorem rd_item (l : List Item) (i : Int) : rd_T31 l i = l.getD i.toNat zItem := rfl
instance baLawful : LawfulBEq ByteArray where
  eq_of_beq {a b} h := by
    obtain ⟨a⟩ := a
    obtain ⟨b⟩ := b
    have : (a == b) = true := h
    rw [eq_of_beq this]
  rfl {a} := by
    obtain ⟨a⟩ := a
    show (a == a) = true
    exact beq_self_eq_true a
/-- a name is its bytes -/
theorem nm_inj {a b : ByteArray} : a.toList = b.toList ↔ a = b := by
  constructor
  · intro h
    rw [ByteArray.toList_eq, ByteArray.toList_eq] at h
    exact ByteArray.ext (Array.toList_inj.1 h)
  · rintro rfl; rfl
theorem nm_beq (a b : ByteArray) : (a.toList == b.toList) = decide (a = b) := by
  rw [Bool.eq_iff_iff, beq_iff_eq, nm_inj, decide_eq_true_iff]
theorem nm_empty {a : ByteArray} : a.toList = ([] : List UInt8) ↔ a = ⟨#[]⟩ := by
  rw [← nm_inj]; rw [show (ByteArray.mk #[]).toList = [] from by rw [ByteArray.toList_eq]]
theorem w64 {n : Int} (h0 : -9223372036854775808 ≤ n) (h1 : n ≤ 9223372036854775807) : wrap64 n = n := by unfold wrap64; omega
/-! the place of a name -/
def look (l : List Item) (n : ByteArray) : Option Item := l.find? (fun x => x.f0 = n)
def fnd (l : List Item) (n : ByteArray) : Int := fidx (fun x : Item => x.f0.toList == n.toList) l 0
theorem fidx_none {α : Type} {p : α → Bool} : ∀ {l : List α} {i : Int}, (∀ x ∈ l, p x = false) → fidx p l i = -1
  | [], _, _ => rfl
  | x :: l, i, h => by
    unfold fidx
    rw [if_neg (by rw [h x (by simp)]; simp)]
    exact fidx_none (fun y hy => h y (by simp [hy]))
theorem fidx_some {α : Type} {p : α → Bool} (z : α) : ∀ {l : List α} {i : Int} {x : α}, l.find? p = some x → ∃ j : Nat, j < l.length ∧ fidx p l i = i + j ∧ l.getD j z = x ∧ p x = true ∧ ∀ m, m < j → p (l.getD m z) = false
  | [], _, _, h => by simp at h
  | y :: l, i, x, h => by
    unfold fidx
    by_cases hy : p y = true
    · rw [if_pos hy]
      simp only [List.find?_cons, hy] at h
      obtain rfl := Option.some.inj h
      exact ⟨0, by simp, by simp, by simp, hy, fun m hm => by omega⟩
    · rw [if_neg hy]
      have hy' : p y = false := by simpa using hy
      simp only [List.find?_cons, hy'] at h
      obtain ⟨j, hj, h1, h2, h3, h4⟩ := fidx_some z (i := i + 1) h
      refine ⟨j + 1, by simp; omega, by rw [h1]; omega, by simpa using h2, h3, fun m hm => ?_⟩
      cases m with
      | zero => simpa using hy'
      | succ m => simpa using h4 m (by omega)
theorem look_pred (n : ByteArray) : (fun x : Item => x.f0.toList == n.toList) = (fun x : Item => decide (x.f0 = n)) := by
  funext x; exact nm_beq _ _
theorem look_mem {l : List Item} {n : ByteArray} {x : Item} (h : look l n = some x) : x ∈ l ∧ x.f0 = n := by
  unfold look at h
  exact ⟨List.mem_of_find?_eq_some h, by simpa using List.find?_some h⟩
theorem look_none {l : List Item} {n : ByteArray} : look l n = none ↔ ∀ x ∈ l, x.f0 ≠ n := by
  unfold look
  simp
theorem fnd_none {l : List Item} {n : ByteArray} (h : look l n = none) : fnd l n = -1 := by
  unfold fnd
  refine fidx_none fun x hx => ?_
  rw [nm_beq]
  simpa using look_none.1 h x hx
theorem fnd_some {l : List Item} {n : ByteArray} {x : Item} (h : look l n = some x) : ∃ j : Nat, j < l.length ∧ fnd l n = j ∧ l.getD j zItem = x ∧ x.f0 = n ∧ ∀ m, m < j → (l.getD m zItem).f0 ≠ n := by
  have h' : l.find? (fun x : Item => x.f0.toList == n.toList) = some x := by rw [look_pred]; exact h
  obtain ⟨j, h1, h2, h3, h4, h5⟩ := fidx_some zItem (i := 0) h'
  refine ⟨j, h1, by unfold fnd; rw [h2]; omega, h3, by simpa [nm_beq] using h4, fun m hm => ?_⟩
  simpa [nm_beq] using h5 m hm
theorem fnd_lt (l : List Item) (n : ByteArray) : fnd l n < l.length := by
  cases h : look l n with
  | none => rw [fnd_none h]; omega
  | some x => obtain ⟨j, h1, h2, _⟩ := fnd_some h; omega
theorem fnd_neg {l : List Item} {n : ByteArray} : fnd l n < 0 ↔ look l n = none := by
  cases h : look l n with
  | none => rw [fnd_none h]; simp
  | some x => obtain ⟨j, h1, h2, _⟩ := fnd_some h; simp; omega
theorem fnd_ge {l : List Item} {n : ByteArray} : 0 ≤ fnd l n ↔ ∃ x, look l n = some x := by
  cases h : look l n with
  | none => rw [fnd_none h]; simp
  | some x => obtain ⟨j, h1, h2, _⟩ := fnd_some h; simp; omega
theorem fnd_rd {l : List Item} {n : ByteArray} {x : Item} (h : look l n = some x) : rd_T31 l (fnd l n) = x := by
  obtain ⟨j, h1, h2, h3, _⟩ := fnd_some h
  rw [rd_item, h2, Int.toNat_natCast]; exact h3
theorem tree_Find_eq (l : List Item) (n : ByteArray) : tree_Find.f l n = some (fnd l n) := rfl
/-! the way up -/
inductive Chain (l : List Item) : ByteArray → List ByteArray → Prop where
  | nil {n : ByteArray} : look l n = none → Chain l n []
  | cons {n : ByteArray} {x : Item} {us : List ByteArray} : look l n = some x → Chain l x.f1 us → Chain l n (n :: us)
def upGo (l : List Item) : Nat → ByteArray → List ByteArray
  | 0, _ => []
  | m + 1, n => match look l n with
    | none => []
    | some x => n :: upGo l m x.f1
def up (l : List Item) (n : ByteArray) : List ByteArray := upGo l (l.length + 1) n
theorem upGo_none {l : List Item} {n : ByteArray} (h : look l n = none) (m : Nat) : upGo l m n = [] := by
  cases m with
  | zero => rfl
  | succ m => unfold upGo; rw [h]
theorem upGo_some {l : List Item} {n : ByteArray} {x : Item} (h : look l n = some x) (m : Nat) : upGo l (m + 1) n = n :: upGo l m x.f1 := by
  rw [upGo.eq_2, h]
theorem Chain.det {l : List Item} {n : ByteArray} {us : List ByteArray} (h : Chain l n us) : ∀ {vs : List ByteArray}, Chain l n vs → us = vs := by
  induction h with
  | nil h =>
    intro vs k
    cases k with
    | nil _ => rfl
    | cons k _ => rw [h] at k; cases k
  | cons h _ ih =>
    intro vs k
    cases k with
    | nil k => rw [h] at k; cases k
    | cons k k2 =>
      rw [h] at k
      cases k
      rw [ih k2]
theorem Chain.upGo {l : List Item} {n : ByteArray} {us : List ByteArray} (h : Chain l n us) : ∀ m, us.length ≤ m → upGo l m n = us := by
  induction h with
  | nil h => intro m _; exact upGo_none h m
  | cons h _ ih =>
    intro m hm
    cases m with
    | zero => simp at hm
    | succ m =>
      rw [upGo_some h, ih m (by simpa using hm)]
theorem Chain.suffix {l : List Item} {n : ByteArray} {us : List ByteArray} (h : Chain l n us) : ∀ {m : ByteArray}, m ∈ us → ∃ vs ws, us = ws ++ vs ∧ Chain l m vs ∧ ∃ vt, vs = m :: vt := by
  induction h with
  | nil _ => intro m hm; cases hm
  | @cons n x us h k ih =>
    intro m hm
    rcases List.mem_cons.1 hm with rfl | hm
    · exact ⟨_, [], rfl, .cons h k, _, rfl⟩
    · obtain ⟨vs, ws, e, hc, he⟩ := ih hm
      exact ⟨vs, n :: ws, by rw [e]; rfl, hc, he⟩
theorem Chain.mem_look {l : List Item} {n : ByteArray} {us : List ByteArray} (h : Chain l n us) {m : ByteArray} (hm : m ∈ us) : ∃ x, look l m = some x := by
  obtain ⟨vs, ws, _, hc, vt, rfl⟩ := h.suffix hm
  cases hc with
  | cons h _ => exact ⟨_, h⟩
theorem Chain.nodup {l : List Item} {n : ByteArray} {us : List ByteArray} (h : Chain l n us) : us.Nodup := by
  induction h with
  | nil _ => simp
  | @cons n x us h k ih =>
    rw [List.nodup_cons]
    refine ⟨fun hm => ?_, ih⟩
    obtain ⟨vs, ws, e, hc, _⟩ := k.suffix hm
    have := hc.det (.cons h k)
    rw [this] at e
    have := congrArg List.length e
    simp at this
    omega
theorem Chain.len {l : List Item} {n : ByteArray} {us : List ByteArray} (h : Chain l n us) : us.length ≤ l.length := by
  have := h.nodup.length_le_of_subset (l₂ := l.map (·.f0)) (fun m hm => by
    obtain ⟨x, hx⟩ := h.mem_look hm
    obtain ⟨h1, rfl⟩ := look_mem hx
    exact List.mem_map_of_mem h1)
  simpa using this
theorem Chain.up {l : List Item} {n : ByteArray} {us : List ByteArray} (h : Chain l n us) : up l n = us := h.upGo _ (by have := h.len; omega)
end Go.Proofs.Ytcgefpklljclgaa.Print

namespace Go.Proofs.Ytcgefpklljclgaa.Print
open Go.RowKit Go.Proofs.YtcgefpklljclgaaW.PrintWords Go.Proofs.YtcgefpklljclgaaW.PrintLast
set_option linter.unusedVariables false
set_option linter.unusedSimpArgs false
/-! names in order -/
def lt (a b : ByteArray) : Bool := Op.bytesLess a.toList b.toList
theorem bl_irrefl : ∀ a : List UInt8, Op.bytesLess a a = false
  | [] => rfl
  | x :: a => by unfold Op.bytesLess; simp [bl_irrefl a]
theorem bl_trans : ∀ {a b c : List UInt8}, Op.bytesLess a b = true → Op.bytesLess b c = true → Op.bytesLess a c = true
  | [], [], _, h, _ => by simp [Op.bytesLess] at h
  | [], _ :: _, [], _, k => by simp [Op.bytesLess] at k
  | [], _ :: _, _ :: _, _, _ => by simp [Op.bytesLess]
  | _ :: _, [], _, h, _ => by simp [Op.bytesLess] at h
  | _ :: _, _ :: _, [], _, k => by simp [Op.bytesLess] at k
  | x :: a, y :: b, z :: c, h, k => by
    simp only [Op.bytesLess, Bool.or_eq_true, Bool.and_eq_true, decide_eq_true_eq, beq_iff_eq] at h k ⊢
    rcases h with h | ⟨rfl, h⟩
    · rcases k with k | ⟨rfl, k⟩
      · exact .inl (UInt8.lt_trans h k)
      · exact .inl h
    · rcases k with k | ⟨rfl, k⟩
      · exact .inl k
      · exact .inr ⟨rfl, bl_trans h k⟩
theorem bl_total : ∀ {a b : List UInt8}, Op.bytesLess a b = false → a ≠ b → Op.bytesLess b a = true
  | [], [], _, h => absurd rfl h
  | [], _ :: _, h, _ => by simp [Op.bytesLess] at h
  | _ :: _, [], _, _ => by simp [Op.bytesLess]
  | x :: a, y :: b, h, k => by
    simp only [Op.bytesLess, Bool.or_eq_true, Bool.or_eq_false_iff, Bool.and_eq_false_iff, Bool.and_eq_true, decide_eq_true_eq, decide_eq_false_iff_not, beq_iff_eq, beq_eq_false_iff_ne] at h ⊢
    obtain ⟨h1, h2⟩ := h
    by_cases e : x = y
    · subst e
      rcases h2 with h2 | h2
      · exact absurd rfl h2
      · exact .inr ⟨rfl, bl_total h2 (fun e => k (by rw [e]))⟩
    · left
      have h3 : ¬ x.toNat < y.toNat := by rwa [← UInt8.lt_iff_toNat_lt]
      have h4 : x.toNat ≠ y.toNat := fun q => e (UInt8.toNat_inj.1 q)
      rw [UInt8.lt_iff_toNat_lt]; omega
theorem lt_irrefl (a : ByteArray) : lt a a = false := bl_irrefl _
theorem lt_trans {a b c : ByteArray} (h : lt a b = true) (k : lt b c = true) : lt a c = true := bl_trans h k
theorem lt_total {a b : ByteArray} (h : lt a b = false) (k : a ≠ b) : lt b a = true := bl_total h (fun e => k (nm_inj.1 e))
theorem lt_ne {a b : ByteArray} (h : lt a b = true) : a ≠ b := by rintro rfl; rw [lt_irrefl] at h; cases h
/-! amounts -/
inductive Comp where | cpu | mem | pods
def Comp.of : Comp → Vec → Int | .cpu, v => v.f0 | .mem, v => v.f1 | .pods, v => v.f2
theorem vec_ext {a b : Vec} (h : ∀ c : Comp, c.of a = c.of b) : a = b := by
  cases a; cases b
  have h0 := h .cpu; have h1 := h .mem; have h2 := h .pods
  simp [Comp.of] at h0 h1 h2
  simp [h0, h1, h2]
def vadd (a b : Vec) : Vec := ⟨a.f0 + b.f0, a.f1 + b.f1, a.f2 + b.f2⟩
theorem of_vadd (c : Comp) (a b : Vec) : c.of (vadd a b) = c.of a + c.of b := by cases c <;> rfl
def MayP (v : Vec) : Prop := ∀ c : Comp, 0 ≤ c.of v ∧ c.of v ≤ 1099511627776
def LeP (a b : Vec) : Prop := ∀ c : Comp, c.of a ≤ c.of b
theorem comp_all {p : Comp → Prop} : (∀ c, p c) ↔ p .cpu ∧ p .mem ∧ p .pods :=
  ⟨fun h => ⟨h _, h _, h _⟩, fun ⟨a, b, d⟩ c => by cases c <;> assumption⟩
instance (v : Vec) : Decidable (MayP v) := decidable_of_iff _ comp_all.symm
instance (a b : Vec) : Decidable (LeP a b) := decidable_of_iff _ comp_all.symm
theorem mayP_iff {a b d : Int} : MayP ⟨a, b, d⟩ ↔ (0 ≤ a ∧ a ≤ 1099511627776) ∧ (0 ≤ b ∧ b ≤ 1099511627776) ∧ (0 ≤ d ∧ d ≤ 1099511627776) := comp_all
theorem leP_iff {a b d a' b' d' : Int} : LeP ⟨a, b, d⟩ ⟨a', b', d'⟩ ↔ a ≤ a' ∧ b ≤ b' ∧ d ≤ d' := comp_all
/-! sums over a tree -/
def sumBy (g : Item → Int) (l : List Item) : Int := (l.map g).sum
theorem sumBy_nil (g : Item → Int) : sumBy g [] = 0 := rfl
theorem sumBy_cons (g : Item → Int) (x : Item) (l : List Item) : sumBy g (x :: l) = g x + sumBy g l := by simp [sumBy]
theorem sumBy_append (g : Item → Int) (l m : List Item) : sumBy g (l ++ m) = sumBy g l + sumBy g m := by simp [sumBy]
theorem sumBy_congr {g h : Item → Int} : ∀ {l : List Item}, (∀ x ∈ l, g x = h x) → sumBy g l = sumBy h l
  | [], _ => rfl
  | x :: l, e => by rw [sumBy_cons, sumBy_cons, e x (by simp), sumBy_congr (fun y hy => e y (by simp [hy]))]
theorem sumBy_add (g h : Item → Int) : ∀ l : List Item, sumBy (fun x => g x + h x) l = sumBy g l + sumBy h l
  | [] => rfl
  | x :: l => by rw [sumBy_cons, sumBy_cons, sumBy_cons, sumBy_add g h l]; omega
theorem sumBy_map (g : Item → Int) (f : Item → Item) : ∀ l : List Item, sumBy g (l.map f) = sumBy (fun x => g (f x)) l
  | [] => rfl
  | x :: l => by rw [List.map_cons, sumBy_cons, sumBy_cons, sumBy_map g f l]
theorem sumBy_zero {g : Item → Int} : ∀ {l : List Item}, (∀ x ∈ l, g x = 0) → sumBy g l = 0
  | [], _ => rfl
  | x :: l, e => by rw [sumBy_cons, e x (by simp), sumBy_zero (fun y hy => e y (by simp [hy]))]; rfl
theorem sumBy_nonneg {g : Item → Int} : ∀ {l : List Item}, (∀ x ∈ l, 0 ≤ g x) → 0 ≤ sumBy g l
  | [], _ => by simp [sumBy_nil]
  | x :: l, e => by rw [sumBy_cons]; have := e x (by simp); have := sumBy_nonneg (l := l) (fun y hy => e y (by simp [hy])); omega
/-- one summand alone: names stand once -/
theorem sumBy_one {v : Int} {l : List Item} (hn : (l.map (·.f0)).Nodup) {x : Item} (hx : x ∈ l) : sumBy (fun y => if y.f0 = x.f0 then v else 0) l = v := by
  induction l with
  | nil => cases hx
  | cons y l ih =>
    rw [List.map_cons, List.nodup_cons] at hn
    rw [sumBy_cons]
    rcases List.mem_cons.1 hx with rfl | hx
    · rw [if_pos rfl, sumBy_zero (fun z hz => if_neg (fun e => hn.1 (by rw [← e]; exact List.mem_map_of_mem hz)))]; omega
    · rw [if_neg (fun e => hn.1 (by rw [e]; exact List.mem_map_of_mem hx)), ih hn.2 hx]; omega
/-- what the children have -/
def csum (c : Comp) (l : List Item) (n : ByteArray) : Int := sumBy (fun y => if y.f1 = n then c.of y.f4 else 0) l
/-! right trees -/
structure ItemOK (x : Item) : Prop where
  name : x.f0 ≠ ⟨#[]⟩
  size : x.f0.size ≤ 24
  lim : MayP x.f2
  own : MayP x.f3
  sub : MayP x.f4
  fit : LeP x.f4 x.f2
  ver : 1 ≤ x.f5 ∧ x.f5 ≤ 9007199254740992
structure RightP (l : List Item) : Prop where
  len : l.length ≤ 120
  ok : ∀ x ∈ l, ItemOK x
  sorted : l.Pairwise (fun x y => lt x.f0 y.f0 = true)
  par : ∀ x ∈ l, x.f1 = ⟨#[]⟩ ∨ ∃ y, look l x.f1 = some y
  sum : ∀ c : Comp, ∀ x ∈ l, c.of x.f4 = c.of x.f3 + csum c l x.f0
  chain : ∀ x ∈ l, ∃ us, Chain l x.f0 us
theorem sorted_nodup {l : List Item} (h : l.Pairwise (fun x y => lt x.f0 y.f0 = true)) : (l.map (·.f0)).Nodup := by
  rw [List.Nodup, List.pairwise_map]
  exact h.imp (fun hxy => lt_ne hxy)
theorem RightP.nodup {l : List Item} (h : RightP l) : (l.map (·.f0)).Nodup := sorted_nodup h.sorted
theorem look_of_mem {l : List Item} (hn : (l.map (·.f0)).Nodup) {x : Item} (hx : x ∈ l) : look l x.f0 = some x := by
  induction l with
  | nil => cases hx
  | cons y l ih =>
    rw [List.map_cons, List.nodup_cons] at hn
    unfold look
    rw [List.find?_cons]
    rcases List.mem_cons.1 hx with rfl | hx
    · simp
    · have : y.f0 ≠ x.f0 := fun e => hn.1 (by rw [e]; exact List.mem_map_of_mem hx)
      simp only [this, decide_false]
      exact ih hn.2 hx
theorem RightP.look {l : List Item} (h : RightP l) {x : Item} (hx : x ∈ l) : look l x.f0 = some x := look_of_mem h.nodup hx
theorem RightP.chainAll {l : List Item} (h : RightP l) (n : ByteArray) : Chain l n (up l n) := by
  cases hl : Print.look l n with
  | none => have c := Chain.nil hl; rw [c.up]; exact c
  | some x =>
    obtain ⟨hx, rfl⟩ := look_mem hl
    obtain ⟨us, c⟩ := h.chain x hx
    rw [c.up]; exact c
theorem right_nil : RightP [] := ⟨by simp, by simp, by simp, by simp, by simp, by simp⟩
/-- two that have one name are one -/
theorem RightP.eq_of {l : List Item} (h : RightP l) {x y : Item} (hx : x ∈ l) (hy : y ∈ l) (e : x.f0 = y.f0) : x = y := by
  have h1 := h.look hx
  rw [e, h.look hy] at h1
  exact (Option.some.inj h1).symm
end Go.Proofs.Ytcgefpklljclgaa.Print

namespace Go.Proofs.Ytcgefpklljclgaa.Print
open Go.RowKit Go.Proofs.YtcgefpklljclgaaW.PrintWords Go.Proofs.YtcgefpklljclgaaW.PrintLast
set_option linter.unusedVariables false
set_option linter.unusedSimpArgs false
/-! a tree whose items change, but neither their names nor parents -/
theorem look_map {f : Item → Item} (hf : ∀ x, (f x).f0 = x.f0) (l : List Item) (n : ByteArray) : look (l.map f) n = (look l n).map f := by
  unfold look
  rw [List.find?_map]
  congr 2
  funext x
  simp [hf]
theorem Chain.map {f : Item → Item} (hf : ∀ x, (f x).f0 = x.f0) (hp : ∀ x, (f x).f1 = x.f1) {l : List Item} {n : ByteArray} {us : List ByteArray} (h : Chain l n us) : Chain (l.map f) n us := by
  induction h with
  | nil h => exact .nil (by rw [look_map hf, h]; rfl)
  | @cons n x us h k ih => exact .cons (x := f x) (by rw [look_map hf, h]; rfl) (by rw [hp]; exact ih)
theorem up_self {l : List Item} {n : ByteArray} {x : Item} (h : look l n = some x) : n ∈ up l n := by
  unfold up
  rw [upGo_some h]
  simp
/-- which of a node's children stand on a way up -/
theorem chain_kids {l : List Item} (hl : RightP l) {n : ByteArray} {us : List ByteArray} (h : Chain l n us) (v : Int) {x : Item} (hx : x ∈ l) :
    sumBy (fun y => if y.f1 = x.f0 ∧ y.f0 ∈ us then v else 0) l = if x.f0 ∈ us ∧ x.f0 ≠ n then v else 0 := by
  induction h with
  | nil _ => rw [sumBy_zero (fun y _ => by simp)]; simp
  | @cons n z us h k ih =>
    obtain ⟨hz, rfl⟩ := look_mem h
    have hnd := (Chain.cons h k).nodup
    rw [List.nodup_cons] at hnd
    have e : sumBy (fun y => if y.f1 = x.f0 ∧ y.f0 ∈ z.f0 :: us then v else 0) l = sumBy (fun y => (if y.f0 = z.f0 then (if z.f1 = x.f0 then v else 0) else 0) + (if y.f1 = x.f0 ∧ y.f0 ∈ us then v else 0)) l := by
      refine sumBy_congr fun y hy => ?_
      by_cases e1 : y.f0 = z.f0
      · have := hl.eq_of hy hz e1
        subst this
        by_cases e2 : y.f1 = x.f0 <;> simp [e2, hnd.1]
      · simp [e1]
    rw [e, sumBy_add, ih, sumBy_one hl.nodup hz]
    by_cases e2 : z.f1 = x.f0
    · have hm : x.f0 ∈ us := by
        rw [e2] at k
        cases k with
        | nil k => rw [hl.look hx] at k; cases k
        | cons _ _ => simp
      have hne : x.f0 ≠ z.f0 := fun q => hnd.1 (by rw [← q]; exact hm)
      simp [e2, hm, hne]
    · by_cases e3 : x.f0 = z.f0
      · simp [e2, e3, hnd.1]
        exact fun q => absurd (q.trans e3.symm) e2
      · have e4 : x.f0 ≠ z.f1 := fun q => e2 q.symm
        simp [e2, e3, e4]
/-! letting in (and out) -/
def admF (us : List ByteArray) (n : ByteArray) (v : Vec) (x : Item) : Item := ⟨x.f0, x.f1, x.f2, if x.f0 = n then vadd x.f3 v else x.f3, if x.f0 ∈ us then vadd x.f4 v else x.f4, x.f5⟩
def admL (l : List Item) (n : ByteArray) (v : Vec) : List Item := l.map (admF (up l n) n v)
theorem csum_adm {l : List Item} (hl : RightP l) (c : Comp) (n : ByteArray) (v : Vec) {x : Item} (hx : x ∈ l) :
    csum c (admL l n v) x.f0 = csum c l x.f0 + if x.f0 ∈ up l n ∧ x.f0 ≠ n then c.of v else 0 := by
  unfold csum admL
  rw [sumBy_map, ← chain_kids hl (hl.chainAll n) (c.of v) hx, ← sumBy_add]
  refine sumBy_congr fun y hy => ?_
  simp only [admF]
  by_cases e1 : y.f1 = x.f0 <;> by_cases e2 : y.f0 ∈ up l n <;> simp [e1, e2, of_vadd]
/-- what keeps a tree right when something is let in or out along a way -/
theorem adm_right {l : List Item} (hl : RightP l) {n : ByteArray} (v : Vec) (hin : ∃ x, look l n = some x)
    (hown : ∀ x ∈ l, x.f0 = n → MayP (vadd x.f3 v)) (hsub : ∀ x ∈ l, x.f0 ∈ up l n → MayP (vadd x.f4 v)) (hfit : ∀ x ∈ l, x.f0 ∈ up l n → LeP (vadd x.f4 v) x.f2) : RightP (admL l n v) where
  len := by unfold admL; rw [List.length_map]; exact hl.len
  ok := by
    intro y hy
    obtain ⟨x, hx, rfl⟩ := List.mem_map.1 hy
    have k := hl.ok x hx
    refine ⟨k.name, k.size, k.lim, ?_, ?_, ?_, k.ver⟩
    · show MayP (if x.f0 = n then vadd x.f3 v else x.f3)
      split
      · exact hown x hx (by assumption)
      · exact k.own
    · show MayP (if x.f0 ∈ up l n then vadd x.f4 v else x.f4)
      split
      · exact hsub x hx (by assumption)
      · exact k.sub
    · show LeP (if x.f0 ∈ up l n then vadd x.f4 v else x.f4) x.f2
      split
      · exact hfit x hx (by assumption)
      · exact k.fit
  sorted := by
    unfold admL
    rw [List.pairwise_map]
    exact hl.sorted
  par := by
    intro y hy
    obtain ⟨x, hx, rfl⟩ := List.mem_map.1 hy
    rcases hl.par x hx with h | ⟨z, h⟩
    · exact .inl h
    · exact .inr ⟨_, by unfold admL; rw [look_map (f := admF (up l n) n v) (fun _ => rfl)]; show (look l x.f1).map _ = _; rw [h]; rfl⟩
  sum := by
    intro c y hy
    obtain ⟨x, hx, rfl⟩ := List.mem_map.1 hy
    show c.of (if x.f0 ∈ up l n then vadd x.f4 v else x.f4) = c.of (if x.f0 = n then vadd x.f3 v else x.f3) + csum c (admL l n v) x.f0
    rw [csum_adm hl c n v hx]
    have hs := hl.sum c x hx
    by_cases e : x.f0 = n
    · have hm : x.f0 ∈ up l n := by
        obtain ⟨z, hz⟩ := hin
        rw [e]; exact up_self hz
      simp [e] at hm ⊢
      rw [if_pos hm, of_vadd, of_vadd, hs, e]; omega
    · by_cases hm : x.f0 ∈ up l n
      · simp [e, hm, of_vadd]; omega
      · simp [e, hm]; omega
  chain := by
    intro y hy
    obtain ⟨x, hx, rfl⟩ := List.mem_map.1 hy
    obtain ⟨us, h⟩ := hl.chain x hx
    exact ⟨us, h.map (f := admF (up l n) n v) (fun _ => rfl) (fun _ => rfl)⟩
/-! a new node -/
def insL (l : List Item) (it : Item) : List Item := l.takeWhile (fun x => lt x.f0 it.f0) ++ it :: l.dropWhile (fun x => lt x.f0 it.f0)
theorem look_ins (a b : List Item) (it : Item) (n : ByteArray) (h : look (a ++ b) it.f0 = none) : look (a ++ it :: b) n = if n = it.f0 then some it else look (a ++ b) n := by
  unfold look at h ⊢
  rw [List.find?_append] at h ⊢
  rw [List.find?_append, List.find?_cons]
  by_cases e : it.f0 = n
  · subst e
    cases ha : a.find? (fun x => decide (x.f0 = it.f0)) with
    | some y => rw [ha] at h; simp at h
    | none => simp
  · have e' : n ≠ it.f0 := fun q => e q.symm
    simp [e, e']
theorem insL_eq (l : List Item) (it : Item) : ∃ a b, l = a ++ b ∧ insL l it = a ++ it :: b ∧ (∀ x ∈ a, lt x.f0 it.f0 = true) ∧ (∀ x t, b = x :: t → lt x.f0 it.f0 = false) := by
  refine ⟨l.takeWhile (fun x => lt x.f0 it.f0), l.dropWhile (fun x => lt x.f0 it.f0), (List.takeWhile_append_dropWhile).symm, rfl, fun x hx => ?_, fun x t e => ?_⟩
  · exact List.all_eq_true.1 (List.all_takeWhile (p := fun x : Item => lt x.f0 it.f0) (l := l)) x hx
  · have := List.head?_dropWhile_not (fun x : Item => lt x.f0 it.f0) l
    rw [e] at this
    simpa using this
theorem csum_ins (c : Comp) (a b : List Item) (it : Item) (n : ByteArray) : csum c (a ++ it :: b) n = csum c (a ++ b) n + if it.f1 = n then c.of it.f4 else 0 := by
  unfold csum
  rw [sumBy_append, sumBy_append, sumBy_cons]; omega
theorem ins_right {l : List Item} (hl : RightP l) {it : Item} (hi : ItemOK it) (h0 : ∀ c : Comp, c.of it.f3 = 0 ∧ c.of it.f4 = 0) (hn : look l it.f0 = none)
    (hp : it.f1 = ⟨#[]⟩ ∨ ∃ y, look l it.f1 = some y) (hlen : l.length < 120) : RightP (insL l it) := by
  obtain ⟨a, b, e, e', ha, hb⟩ := insL_eq l it
  rw [e']
  subst e
  have hlk := fun n => look_ins a b it n hn
  have hmem : ∀ x, x ∈ a ++ it :: b ↔ x = it ∨ x ∈ a ++ b := fun x => by simp; constructor <;> (intro h; rcases h with h | h | h <;> simp [h])
  have hnew : ∀ m y, look (a ++ b) m = some y → m ≠ it.f0 := fun m y h q => by rw [q, hn] at h; cases h
  have hne : it.f0 ≠ ⟨#[]⟩ := hi.name
  have hpar : ∀ x ∈ a ++ b, x.f1 ≠ it.f0 := fun x hx q => by
    rcases hl.par x hx with h | ⟨y, h⟩
    · exact hne (q.symm.trans h)
    · exact hnew _ _ h q
  have hch : ∀ {n us}, Chain (a ++ b) n us → n ≠ it.f0 → Chain (a ++ it :: b) n us := by
    intro n us h
    induction h with
    | nil h => intro q; exact .nil (by rw [hlk, if_neg q]; exact h)
    | @cons n x us h k ih =>
      intro q
      exact .cons (x := x) (by rw [hlk, if_neg q]; exact h) (ih (hpar x (look_mem h).1))
  have hip : it.f1 ≠ it.f0 := by
    rcases hp with h | ⟨y, h⟩
    · rw [h]; exact fun q => hne q.symm
    · exact hnew _ _ h
  refine ⟨?_, ?_, ?_, ?_, ?_, ?_⟩
  · simp at hlen ⊢; omega
  · intro x hx
    rcases (hmem x).1 hx with rfl | hx
    · exact hi
    · exact hl.ok x hx
  · have hs := hl.sorted
    rw [List.pairwise_append] at hs ⊢
    obtain ⟨h1, h2, h3⟩ := hs
    have hbx : ∀ y ∈ b, lt it.f0 y.f0 = true := by
      intro y hy
      cases b with
      | nil => cases hy
      | cons x t =>
        have hx : lt it.f0 x.f0 = true := lt_total (hb x t rfl) (fun q => look_none.1 hn x (by simp) q)
        rcases List.mem_cons.1 hy with rfl | hy
        · exact hx
        · exact lt_trans hx ((List.pairwise_cons.1 h2).1 y hy)
    refine ⟨h1, List.pairwise_cons.2 ⟨hbx, h2⟩, fun x hx y hy => ?_⟩
    rcases List.mem_cons.1 hy with rfl | hy
    · exact ha x hx
    · exact h3 x hx y hy
  · intro x hx
    rcases (hmem x).1 hx with rfl | hx
    · rcases hp with h | ⟨y, h⟩
      · exact .inl h
      · exact .inr ⟨y, by rw [hlk, if_neg hip]; exact h⟩
    · rcases hl.par x hx with h | ⟨y, h⟩
      · exact .inl h
      · exact .inr ⟨y, by rw [hlk, if_neg (hpar x hx)]; exact h⟩
  · intro c x hx
    rw [csum_ins, (h0 c).2, ite_self, Int.add_zero]
    rcases (hmem x).1 hx with rfl | hx
    · rw [(h0 c).1, (h0 c).2]
      unfold csum
      rw [sumBy_zero (fun y hy => if_neg (hpar y hy))]; rfl
    · exact hl.sum c x hx
  · intro x hx
    rcases (hmem x).1 hx with rfl | hx
    · have := hch (hl.chainAll x.f1) hip
      exact ⟨_, .cons (x := x) (by rw [hlk, if_pos rfl]) this⟩
    · obtain ⟨us, h⟩ := hl.chain x hx
      exact ⟨us, hch h (fun q => look_none.1 hn x hx q)⟩
end Go.Proofs.Ytcgefpklljclgaa.Print

namespace Go.Proofs.Ytcgefpklljclgaa.Print
open Go.RowKit Go.Proofs.YtcgefpklljclgaaW.PrintWords Go.Proofs.YtcgefpklljclgaaW.PrintLast
set_option linter.unusedVariables false
set_option linter.unusedSimpArgs false
theorem ite_iff {α : Type} {p q : Prop} [Decidable p] [Decidable q] (h : p ↔ q) {a b : α} : (if p then a else b) = if q then a else b := by
  by_cases hp : p
  · rw [if_pos hp, if_pos (h.1 hp)]
  · rw [if_neg hp, if_neg (fun k => hp (h.2 k))]
/-! the document's small functions -/
theorem r10_Le_eq (a b d a' b' d' : Int) : r10_Le.f a b d a' b' d' = some (decide (LeP ⟨a, b, d⟩ ⟨a', b', d'⟩)) := by
  unfold r10_Le.f
  by_cases h0 : a ≤ a' <;> by_cases h1 : b ≤ b' <;> simp [h0, h1, leP_iff]
theorem r10_unit_eq (a : Int) : r10_unit.f a = some (decide (0 ≤ a ∧ a ≤ 1099511627776)) := by
  unfold r10_unit.f
  by_cases h0 : 0 ≤ a
  · rw [if_pos (by omega)]; simp [h0]
  · rw [if_neg (by omega)]; simp [h0]
theorem r10_MayVec_eq (a b d : Int) : r10_MayVec.f a b d = some (decide (MayP ⟨a, b, d⟩)) := by
  unfold r10_MayVec.f
  simp only [r10_unit_eq, Option.bind_some]
  by_cases h0 : 0 ≤ a ∧ a ≤ 1099511627776 <;> by_cases h1 : 0 ≤ b ∧ b ≤ 1099511627776 <;> simp [h0, h1, mayP_iff]
theorem r10_MayName_eq (n : ByteArray) : r10_MayName.f n = some (decide (n ≠ ⟨#[]⟩ ∧ n.size ≤ 24)) := by
  unfold r10_MayName.f
  by_cases h : n = ⟨#[]⟩
  · rw [if_pos (nm_empty.2 h)]; simp [h]
  · rw [if_neg (fun q => h (nm_empty.1 q))]; simp [h]; omega
theorem r10_copied_eq (l : List Item) (h : l.length < 1000000) : r10_copied.f l = some l := by
  unfold r10_copied.f
  simp only [Option.bind_some, List.length_nil, List.nil_append]
  rw [if_pos (by omega)]
theorem r10_Find_l0 (l : List Item) (n : ByteArray) (hl : l.length < 1000000) : ∀ (d i : Nat), l.length - i = d → i ≤ l.length →
    Ev (fun k => r10_Find.l0 k l n i) (fidx (fun x : Item => x.f0.toList == n.toList) (l.drop i) i)
  | 0, i, hd, hi => by
    obtain rfl : i = l.length := by omega
    refine Ev.step (f := fun _ => some (-1)) (fun k => ?_) (by rw [List.drop_length]; exact Ev.now _)
    simp only [r10_Find.l0]
    rw [if_neg (by omega)]
  | d + 1, i, hd, hi => by
    have hlt : i < l.length := by omega
    rw [fidx_drop _ zItem l i hlt]
    have hrd : rd_T31 l (i : Int) = l.getD i zItem := by rw [rd_item, Int.toNat_natCast]
    by_cases e : (l.getD i zItem).f0.toList = n.toList
    · rw [if_pos (beq_iff_eq.2 e)]
      refine Ev.step (f := fun _ => some (i : Int)) (fun k => ?_) (Ev.now _)
      simp only [r10_Find.l0]
      rw [if_pos (by omega), if_pos (by omega), hrd, if_pos e]
    · rw [if_neg (fun q => e (beq_iff_eq.1 q))]
      refine Ev.step (f := fun k => r10_Find.l0 k l n ((i + 1 : Nat) : Int)) (fun k => ?_) (r10_Find_l0 l n hl d (i + 1) (by omega) (by omega))
      simp only [r10_Find.l0]
      rw [if_pos (by omega), if_pos (by omega), hrd, if_neg e, w64 (by omega) (by omega)]
      rfl
theorem r10_Find_ev (l : List Item) (n : ByteArray) (hl : l.length < 1000000) : Ev (fun k => r10_Find.f k l n) (fnd l n) := r10_Find_l0 l n hl _ 0 rfl (by omega)
theorem r10_Up_l0 (l : List Item) (hl : l.length < 1000000) : ∀ (m : Nat) (n : ByteArray) (out : List ByteArray), out.length + m = l.length + 1 →
    Ev (fun k => r10_Up.l0 k l out (fnd l n)) (out ++ upGo l m n)
  | 0, n, out, hm => by
    rw [upGo.eq_1, List.append_nil]
    refine Ev.step (f := fun _ => some out) (fun k => ?_) (Ev.now _)
    simp only [r10_Up.l0]
    by_cases h : 0 ≤ fnd l n
    · rw [if_pos h, if_neg (by omega)]
    · rw [if_neg h]
  | m + 1, n, out, hm => by
    cases h : look l n with
    | none =>
      rw [upGo_none h, List.append_nil]
      refine Ev.step (f := fun _ => some out) (fun k => ?_) (Ev.now _)
      simp only [r10_Up.l0]
      rw [fnd_none h, if_neg (by omega)]
    | some x =>
      rw [upGo_some h]
      have h0 := fnd_ge.2 ⟨x, h⟩
      have h1 := fnd_lt l n
      obtain ⟨hx, hn⟩ := look_mem h
      refine Ev.step (f := fun k => (r10_Find.f k l x.f1).bind fun t => r10_Up.l0 k l (out ++ [n]) t) (fun k => ?_) (Ev.bind (r10_Find_ev l x.f1 hl) ?_)
      · simp only [r10_Up.l0]
        rw [if_pos h0, if_pos (by omega), if_pos h0, if_pos h1, if_pos (by omega), fnd_rd h, hn]
      · have := r10_Up_l0 l hl m x.f1 (out ++ [n]) (by simp; omega)
        simpa using this
theorem r10_Up_ev (l : List Item) (n : ByteArray) (hl : l.length < 1000000) : Ev (fun k => r10_Up.f k l n) (up l n) :=
  Ev.bind (r10_Find_ev l n hl) (by have := r10_Up_l0 l hl (l.length + 1) n [] (by simp); rw [List.nil_append] at this; exact this)
/-! a store at a name's place -/
theorem set_at {l : List Item} (hn : (l.map (·.f0)).Nodup) {n : ByteArray} {x : Item} (h : look l n = some x) (y : Item) :
    l.set (fnd l n).toNat y = l.map (fun z => if z.f0 = n then y else z) := by
  obtain ⟨j, h1, h2, h3, h4, h5⟩ := fnd_some h
  rw [h2, Int.toNat_natCast]
  have hx : l[j] = x := by rw [← h3]; simp [h1]
  apply List.ext_getElem (by simp)
  intro m hm hm'
  simp only [List.length_set] at hm
  rw [List.getElem_set, List.getElem_map]
  by_cases e : j = m
  · subst e
    rw [if_pos rfl, if_pos (by rw [hx]; exact h4)]
  · rw [if_neg e, if_neg]
    intro q
    have h6 : (l.map (·.f0))[j]'(by simpa using h1) = (l.map (·.f0))[m]'(by simpa using hm) := by simp [hx, h4, q]
    exact e ((List.getElem_inj hn).1 h6)
theorem fnd_map {f : Item → Item} (hf : ∀ x, (f x).f0 = x.f0) (l : List Item) (n : ByteArray) : fnd (l.map f) n = fnd l n := by
  have : ∀ (l : List Item) (i : Int), fidx (fun x : Item => x.f0.toList == n.toList) (l.map f) i = fidx (fun x : Item => x.f0.toList == n.toList) l i := by
    intro l
    induction l with
    | nil => intro i; rfl
    | cons x l ih => intro i; simp only [List.map_cons, fidx, hf, ih]
  exact this l 0
/-! letting in, as the document says -/
def admS (us : List ByteArray) (v : Vec) (x : Item) : Item := ⟨x.f0, x.f1, x.f2, x.f3, if x.f0 ∈ us then vadd x.f4 v else x.f4, x.f5⟩
def admR (l : List Item) (n : ByteArray) (v : Vec) : List Item × Int :=
  if ¬ MayP v then ([], 1) else if (look l n).isNone = true then ([], 2) else if ∀ x ∈ l, x.f0 ∈ up l n → LeP (vadd x.f4 v) x.f2 then (admL l n v, 0) else ([], 12)
theorem vadd_wrap {a b : Vec} (ha : MayP a) (hb : MayP b) : (wrap64 (a.f0 + b.f0), wrap64 (a.f1 + b.f1), wrap64 (a.f2 + b.f2)) = ((vadd a b).f0, (vadd a b).f1, (vadd a b).f2) := by
  have a0 := ha .cpu; have a1 := ha .mem; have a2 := ha .pods
  have b0 := hb .cpu; have b1 := hb .mem; have b2 := hb .pods
  simp only [Comp.of] at a0 a1 a2 b0 b1 b2
  rw [w64 (by omega) (by omega), w64 (by omega) (by omega), w64 (by omega) (by omega)]
  rfl
theorem r10_Add_eq {a b : Vec} (ha : MayP a) (hb : MayP b) : r10_Add.f a.f0 a.f1 a.f2 b.f0 b.f1 b.f2 = some ((vadd a b).f0, (vadd a b).f1, (vadd a b).f2) := by
  unfold r10_Add.f; rw [vadd_wrap ha hb]
theorem look_admS (us : List ByteArray) (v : Vec) (l : List Item) (n : ByteArray) : look (l.map (admS us v)) n = (look l n).map (admS us v) := look_map (f := admS us v) (fun _ => rfl) l n
theorem drop_cons {us : List ByteArray} {i : Nat} (h : i < us.length) : us.drop i = rdOf ByteArray.empty us i :: us.drop (i + 1) := by
  rw [List.drop_eq_getElem_cons h]; simp [rdOf, h]
theorem take_snoc_ {us : List ByteArray} {i : Nat} (h : i < us.length) : us.take (i + 1) = us.take i ++ [rdOf ByteArray.empty us i] := by
  rw [List.take_succ_eq_append_getElem h]; simp [rdOf, h]
theorem fnd_admS (us : List ByteArray) (v : Vec) (l : List Item) (n : ByteArray) : fnd (l.map (admS us v)) n = fnd l n := fnd_map (f := admS us v) (fun _ => rfl) l n
theorem nodup_admS {us : List ByteArray} {v : Vec} {l : List Item} (h : (l.map (·.f0)).Nodup) : ((l.map (admS us v)).map (·.f0)).Nodup := by
  rw [List.map_map]; exact h
theorem r10_Admit_l0 {l : List Item} (hl : RightP l) (n : ByteArray) {v : Vec} (hv : MayP v) (hin : ∃ x, look l n = some x) : ∀ (d i : Nat), (up l n).length - i = d → i ≤ (up l n).length →
    Ev (fun k => r10_Admit.l0 k n (up l n) (l.map (admS ((up l n).take i) v)) i v.f0 v.f1 v.f2) (if ∀ x ∈ l, x.f0 ∈ (up l n).drop i → LeP (vadd x.f4 v) x.f2 then (admL l n v, 0) else ([], 12))
  | 0, i, hd, hi => by
    obtain rfl : i = (up l n).length := by omega
    rw [List.drop_length, List.take_length, if_pos (by simp)]
    obtain ⟨x, hx⟩ := hin
    obtain ⟨hm, hxn⟩ := look_mem hx
    have hlk : look (l.map (admS (up l n) v)) n = some (admS (up l n) v x) := by rw [look_admS, hx]; rfl
    have h0 : 0 ≤ fnd l n := fnd_ge.2 ⟨x, hx⟩
    have h1 : fnd l n < l.length := fnd_lt l n
    obtain ⟨K, hK⟩ := r10_Find_ev (l.map (admS (up l n) v)) n (by rw [List.length_map]; have := hl.len; omega)
    dsimp only at hK
    refine ⟨K + 1, fun k hk => ?_⟩
    obtain ⟨k, rfl⟩ : ∃ m, k = m + 1 := ⟨k - 1, by omega⟩
    have hrd := fnd_rd hlk
    rw [fnd_admS] at hrd
    simp only [r10_Admit.l0]
    rw [if_neg (by omega), hK k (by omega), fnd_admS]
    simp only [Option.bind_some]
    rw [if_pos h0, if_pos (by rw [List.length_map]; omega), hrd, r10_Add_eq (a := (admS (up l n) v x).f3) (hl.ok x hm).own hv]
    simp only [Option.bind_some]
    have hset := set_at (nodup_admS (us := up l n) (v := v) hl.nodup) hlk
    rw [fnd_admS] at hset
    rw [hset, List.map_map]
    congr 2
    unfold admL
    refine List.map_congr_left fun z hz => ?_
    simp only [Function.comp, admF]
    by_cases e : z.f0 = n
    · obtain rfl : z = x := hl.eq_of hz hm (e.trans hxn.symm)
      rw [if_pos (by exact e), if_pos e]
      rfl
    · rw [if_neg (by exact e), if_neg e]
      rfl
  | d + 1, i, hd, hi => by
    have hlt : i < (up l n).length := by omega
    have hc := hl.chainAll n
    have hnd := hc.nodup
    rw [drop_cons hlt]
    have hu : rdOf ByteArray.empty (up l n) i ∈ up l n := by simp [rdOf, hlt]
    obtain ⟨x, hx⟩ := hc.mem_look hu
    obtain ⟨hm, hxn⟩ := look_mem hx
    have hnot : x.f0 ∉ (up l n).take i := by
      rw [hxn]
      rw [← List.take_append_drop i (up l n), drop_cons hlt, List.nodup_append] at hnd
      exact fun q => hnd.2.2 _ q _ (by simp) rfl
    generalize hU : rdOf ByteArray.empty (up l n) i = u at *
    have hlk : look (l.map (admS ((up l n).take i) v)) u = some (admS ((up l n).take i) v x) := by rw [look_admS, hx]; rfl
    have hsame : admS ((up l n).take i) v x = x := by unfold admS; rw [if_neg hnot]
    rw [hsame] at hlk
    have h0 : 0 ≤ fnd l u := fnd_ge.2 ⟨x, hx⟩
    have h1 : fnd l u < l.length := fnd_lt l u
    have hrd := fnd_rd hlk
    have hset := set_at (nodup_admS (us := (up l n).take i) (v := v) hl.nodup) hlk
    rw [fnd_admS] at hrd
    rw [fnd_admS] at hset
    obtain ⟨K, hK⟩ := r10_Find_ev (l.map (admS ((up l n).take i) v)) u (by rw [List.length_map]; have := hl.len; omega)
    obtain ⟨K', hK'⟩ := r10_Admit_l0 hl n hv hin d (i + 1) (by omega) (by omega)
    dsimp only at hK hK'
    refine ⟨K + K' + 1, fun k hk => ?_⟩
    obtain ⟨k, rfl⟩ : ∃ m, k = m + 1 := ⟨k - 1, by omega⟩
    have hup : (up l n).length ≤ l.length := hc.len
    have hlen := hl.len
    simp only [r10_Admit.l0]
    rw [if_pos (by omega), if_pos (by omega), hU, hK k (by omega), fnd_admS]
    simp only [Option.bind_some]
    rw [if_pos h0, if_pos (by rw [List.length_map]; omega), hrd, r10_Add_eq (a := x.f4) (hl.ok x hm).sub hv]
    simp only [Option.bind_some]
    rw [hset, List.map_map]
    have hnew : (l.map ((fun z : Item => if z.f0 = u then (⟨x.f0, x.f1, ⟨x.f2.f0, x.f2.f1, x.f2.f2⟩, ⟨x.f3.f0, x.f3.f1, x.f3.f2⟩, ⟨(vadd x.f4 v).f0, (vadd x.f4 v).f1, (vadd x.f4 v).f2⟩, x.f5⟩ : Item) else z) ∘ admS ((up l n).take i) v)) = l.map (admS ((up l n).take (i + 1)) v) := by
      refine List.map_congr_left fun z hz => ?_
      simp only [Function.comp]
      rw [take_snoc_ hlt, hU]
      by_cases e : z.f0 = u
      · obtain rfl : z = x := hl.eq_of hz hm (e.trans hxn.symm)
        rw [if_pos (by exact e)]
        unfold admS
        rw [if_pos (by simp [e])]
      · rw [if_neg (by exact e)]
        unfold admS
        simp [e]
    rw [hnew]
    have hlk2 : look (l.map (admS ((up l n).take (i + 1)) v)) u = some (admS ((up l n).take (i + 1)) v x) := by rw [look_admS, hx]; rfl
    have hrd2 := fnd_rd hlk2
    rw [fnd_admS] at hrd2
    have hx2 : admS ((up l n).take (i + 1)) v x = ⟨x.f0, x.f1, x.f2, x.f3, vadd x.f4 v, x.f5⟩ := by unfold admS; rw [if_pos (by rw [take_snoc_ hlt, hU, hxn]; simp)]
    rw [hrd2, hx2, r10_Le_eq]
    simp only [Option.bind_some]
    by_cases hfit : LeP (vadd x.f4 v) x.f2
    · rw [if_pos (by exact decide_eq_true hfit), w64 (by omega) (by omega)]
      have h2 := hK' k (by omega)
      rw [show ((i : Int) + 1) = ((i + 1 : Nat) : Int) from by omega, h2]
      congr 1
      refine ite_iff ⟨fun q z hz hzm => ?_, fun q z hz hzm => q z hz (by simp [hzm])⟩
      rcases List.mem_cons.1 hzm with e | hzm
      · obtain rfl : z = x := hl.eq_of hz hm (e.trans hxn.symm)
        exact hfit
      · exact q z hz hzm
    · rw [if_neg (by simpa using hfit), if_neg (fun q => hfit (q x hm (by rw [hxn]; simp)))]
      rfl
theorem r10_Admit_ev {l : List Item} (hl : RightP l) (n : ByteArray) (v : Vec) : Ev (fun k => r10_Admit.f k l n v.f0 v.f1 v.f2) (admR l n v) := by
  have hlen := hl.len
  refine Ev.bind (r10_Up_ev l n (by omega)) ?_
  have hmv : r10_MayVec.f v.f0 v.f1 v.f2 = some (decide (MayP v)) := r10_MayVec_eq _ _ _
  unfold admR
  by_cases hv : MayP v
  · rw [if_neg (by simpa using hv)]
    cases hx : look l n with
    | none =>
      rw [if_pos (show (none : Option Item).isNone = true from rfl)]
      refine Ev.congr (fun k => ?_) (Ev.now _)
      rw [hmv]
      simp only [Option.bind_some]
      rw [if_pos (by exact decide_eq_true hv), show up l n = [] from upGo_none hx _]
      rfl
    | some x =>
      rw [if_neg (by simp)]
      have h := r10_Admit_l0 hl n hv ⟨x, hx⟩ _ 0 rfl (by omega)
      rw [List.take_zero, List.drop_zero, show l.map (admS [] v) = l from by rw [show admS [] v = id from by funext z; simp [admS]]; simp] at h
      refine Ev.congr (fun k => ?_) h
      rw [hmv]
      simp only [Option.bind_some]
      have : (up l n).length ≠ 0 := by have := up_self hx; intro q; rw [List.length_eq_zero_iff.1 q] at this; cases this
      rw [if_pos (by exact decide_eq_true hv), if_neg (by omega), r10_copied_eq l (by omega)]
      rfl
  · rw [if_pos hv]
    refine Ev.congr (fun k => ?_) (Ev.now _)
    rw [hmv]
    simp only [Option.bind_some]
    rw [if_neg (by simpa using hv)]
    rfl
/-! a new node, as the document says -/
def zVec : Vec := ⟨0, 0, 0⟩
def newItem (n p : ByteArray) (v : Vec) : Item := ⟨n, p, v, zVec, zVec, 1⟩
def creR (l : List Item) (n p : ByteArray) (v : Vec) : List Item × Int :=
  if ¬ ((n ≠ ⟨#[]⟩ ∧ n.size ≤ 24) ∧ MayP v) then ([], 1) else if (look l n).isSome = true then ([], 3) else if p ≠ ⟨#[]⟩ ∧ (look l p).isNone = true then ([], 2) else if 120 ≤ l.length then ([], 4) else (insL l (newItem n p v), 0)
theorem insL_cons (x : Item) (l : List Item) (it : Item) : insL (x :: l) it = if lt x.f0 it.f0 = true then x :: insL l it else it :: x :: l := by
  unfold insL
  rw [List.takeWhile_cons, List.dropWhile_cons]
  cases lt x.f0 it.f0 <;> simp
theorem r10_Create_l0 (n p : ByteArray) (v : Vec) (b : List Item) : ∀ (a l : List Item), l = a ++ b → l.length < 1000000 → Ev (fun k => r10_Create.l0 k l n p a.length v.f0 v.f1 v.f2) (a ++ insL b (newItem n p v), 0) := by
  induction b with
  | nil =>
    rintro a l rfl hl
    simp only [List.append_nil] at hl ⊢
    refine Ev.step (f := fun _ => some (a ++ [newItem n p v], 0)) (fun k => ?_) (Ev.now _)
    simp only [r10_Create.l0]
    rw [if_neg (by omega), if_pos (by omega), if_pos (by omega), Int.toNat_natCast, List.take_length, r10_copied_eq a (by omega)]
    simp only [Option.bind_some, List.drop_length, List.length_append, List.length_cons, List.length_nil]
    rw [if_pos (by omega), if_pos (by omega), List.append_nil]
    rfl
  | cons x b ih =>
    rintro a l rfl hl
    have hlen : (a ++ x :: b).length = a.length + b.length + 1 := by simp; omega
    have hrd : rd_T31 (a ++ x :: b) (a.length : Int) = x := by rw [rd_item, Int.toNat_natCast]; simp
    rw [insL_cons]
    by_cases e : lt x.f0 n = true
    · rw [if_pos (by exact e)]
      have h := ih (a ++ [x]) (a ++ x :: b) (by simp) hl
      refine Ev.step (f := fun k => r10_Create.l0 k (a ++ x :: b) n p (a ++ [x]).length v.f0 v.f1 v.f2) (fun k => ?_) (by simpa using h)
      simp only [r10_Create.l0]
      rw [if_pos (by omega), if_pos (by omega), hrd, if_pos (by exact e), w64 (by omega) (by omega)]
      simp
    · rw [if_neg (by exact e)]
      refine Ev.step (f := fun _ => some (a ++ newItem n p v :: x :: b, 0)) (fun k => ?_) (Ev.now _)
      simp only [r10_Create.l0]
      rw [if_pos (by omega), if_pos (by omega), hrd, if_neg (by exact e), if_pos (by omega), Int.toNat_natCast, List.take_left, r10_copied_eq a (by omega)]
      simp only [Option.bind_some, List.drop_left, List.length_append, List.length_cons, List.length_nil]
      rw [if_pos (by omega), if_pos (by omega)]
      simp
      rfl
theorem r10_Create_ev {l : List Item} (hl : l.length < 1000000) (n p : ByteArray) (v : Vec) : Ev (fun k => r10_Create.f k l n p v.f0 v.f1 v.f2) (creR l n p v) := by
  have hmv : r10_MayVec.f v.f0 v.f1 v.f2 = some (decide (MayP v)) := r10_MayVec_eq _ _ _
  have hno : ∀ e : Int, ((r10_no.f e).bind fun bt => some (bt.1, bt.2)) = some (([] : List Item), e) := fun _ => rfl
  have hj1 : ∀ b, Ev (fun k => r10_Create.j1 k l n p b v.f0 v.f1 v.f2) (if b = true then ([], 2) else if 120 ≤ l.length then ([], 4) else (insL l (newItem n p v), 0)) := by
    intro b
    cases b with
    | true =>
      refine Ev.step (f := fun _ => some ([], 2)) (fun k => ?_) (Ev.now _)
      simp only [r10_Create.j1, if_true]
      exact hno 2
    | false =>
      simp only [Bool.false_eq_true, if_false]
      by_cases h : 120 ≤ l.length
      · rw [if_pos h]
        refine Ev.step (f := fun _ => some ([], 4)) (fun k => ?_) (Ev.now _)
        simp only [r10_Create.j1, Bool.false_eq_true, if_false]
        rw [if_pos (by omega)]; exact hno 4
      · rw [if_neg h]
        refine Ev.step (f := fun k => r10_Create.l0 k l n p 0 v.f0 v.f1 v.f2) (fun k => ?_) (by have := r10_Create_l0 n p v l [] l rfl hl; simpa using this)
        simp only [r10_Create.j1, Bool.false_eq_true, if_false]
        rw [if_neg (by omega)]
  have hj0 : ∀ b, Ev (fun k => r10_Create.j0 k l n p b v.f0 v.f1 v.f2) (if b = true then ([], 1) else if (look l n).isSome = true then ([], 3) else if p ≠ ⟨#[]⟩ ∧ (look l p).isNone = true then ([], 2) else if 120 ≤ l.length then ([], 4) else (insL l (newItem n p v), 0)) := by
    intro b
    cases b with
    | true =>
      refine Ev.step (f := fun _ => some ([], 1)) (fun k => ?_) (Ev.now _)
      simp only [r10_Create.j0, if_true]
      exact hno 1
    | false =>
      simp only [Bool.false_eq_true, if_false]
      refine Ev.step (f := fun k => (r10_Find.f k l n).bind fun t => if t ≥ 0 then some ([], 3) else if p.toList = ([] : List UInt8) then r10_Create.j1 k l n p false v.f0 v.f1 v.f2 else (r10_Find.f k l p).bind fun t => r10_Create.j1 k l n p (decide (t < 0)) v.f0 v.f1 v.f2) (fun k => ?_) (Ev.bind (r10_Find_ev l n hl) ?_)
      · simp only [r10_Create.j0, Bool.false_eq_true, if_false]; rfl
      · cases hn : look l n with
        | some x =>
          refine Ev.congr (fun k => ?_) (Ev.now _)
          rw [if_pos (fnd_ge.2 ⟨x, hn⟩)]; rfl
        | none =>
          simp only [Option.isSome_none, Bool.false_eq_true, if_false]
          by_cases hp : p = ⟨#[]⟩
          · have h := hj1 false
            simp only [Bool.false_eq_true, if_false] at h
            rw [if_neg (fun q => q.1 hp)]
            refine Ev.congr (fun k => ?_) h
            rw [fnd_none hn, if_neg (by omega), if_pos (nm_empty.2 hp)]
          · have h := hj1 (decide (fnd l p < 0))
            refine Ev.congr (g := fun k => _) (f := fun k => (r10_Find.f k l p).bind fun t => r10_Create.j1 k l n p (decide (t < 0)) v.f0 v.f1 v.f2) (fun k => ?_) (Ev.bind (r10_Find_ev l p hl) ?_)
            · rw [fnd_none hn, if_neg (by omega), if_neg (fun q => hp (nm_empty.1 q))]
            · have e : (p ≠ ⟨#[]⟩ ∧ (look l p).isNone = true) ↔ (decide (fnd l p < 0) = true) := by
                rw [decide_eq_true_iff, fnd_neg]; simp [hp]
              rw [ite_iff e]; exact h
  unfold creR
  by_cases hn : n ≠ ⟨#[]⟩ ∧ n.size ≤ 24
  · have h := hj0 (!decide (MayP v))
    rw [ite_iff (q := (!decide (MayP v)) = true) (by simp [hn])]
    refine Ev.congr (fun k => ?_) h
    unfold r10_Create.f
    rw [r10_MayName_eq, hmv]
    simp only [Option.bind_some]
    rw [if_pos (by exact decide_eq_true hn)]
  · have h := hj0 true
    rw [if_pos (fun q => hn q.1)]
    rw [if_pos rfl] at h
    refine Ev.congr (fun k => ?_) h
    unfold r10_Create.f
    rw [r10_MayName_eq]
    simp only [Option.bind_some]
    rw [if_neg (by simpa using hn)]
theorem creR_right {l : List Item} (hl : RightP l) {n p : ByteArray} {v : Vec} (h : (creR l n p v).2 = 0) :
    (creR l n p v).1 = insL l (newItem n p v) ∧ RightP (insL l (newItem n p v)) ∧ look l n = none ∧ l.length < 120 ∧ n ≠ ⟨#[]⟩ ∧ n.size ≤ 24 ∧ MayP v ∧ (p = ⟨#[]⟩ ∨ ∃ y, look l p = some y) := by
  unfold creR at h ⊢
  split at h
  · simp at h
  rename_i h1
  split at h
  · simp at h
  rename_i h2
  split at h
  · simp at h
  rename_i h3
  split at h
  · simp at h
  rename_i h4
  rw [if_neg h1, if_neg h2, if_neg h3, if_neg h4]
  obtain ⟨⟨h5, h6⟩, h7⟩ := Classical.not_not.1 h1
  have hn : look l n = none := by cases q : look l n with
    | none => rfl
    | some x => rw [q] at h2; simp at h2
  have hp : p = ⟨#[]⟩ ∨ ∃ y, look l p = some y := by
    by_cases e : p = ⟨#[]⟩
    · exact .inl e
    · right
      cases q : look l p with
      | none => rw [q] at h3; exact absurd ⟨e, rfl⟩ h3
      | some y => exact ⟨y, rfl⟩
  have hz : ∀ c : Comp, c.of zVec = 0 := fun c => by cases c <;> rfl
  refine ⟨rfl, ins_right hl ⟨h5, h6, h7, fun c => ?_, fun c => ?_, fun c => ?_, ?_⟩ (fun c => ⟨hz c, hz c⟩) hn hp (by omega), hn, by omega, h5, h6, h7, hp⟩
  · show 0 ≤ c.of zVec ∧ c.of zVec ≤ _; rw [hz]; omega
  · show 0 ≤ c.of zVec ∧ c.of zVec ≤ _; rw [hz]; omega
  · show c.of zVec ≤ c.of v; rw [hz]; exact (h7 c).1
  · show (1 : Int) ≤ 1 ∧ (1 : Int) ≤ _; omega
theorem mem_insL {l : List Item} {it x : Item} : x ∈ insL l it ↔ x = it ∨ x ∈ l := by
  obtain ⟨a, b, e, e', _, _⟩ := insL_eq l it
  rw [e', e]; simp; constructor <;> (intro h; rcases h with h | h | h <;> simp [h])
theorem len_insL (l : List Item) (it : Item) : (insL l it).length = l.length + 1 := by
  obtain ⟨a, b, e, e', _, _⟩ := insL_eq l it
  rw [e', e]; simp; omega
theorem admR_right {l : List Item} (hl : RightP l) {n : ByteArray} {v : Vec} (h : (admR l n v).2 = 0) : (admR l n v).1 = admL l n v ∧ RightP (admL l n v) ∧ MayP v ∧ (∃ x, look l n = some x) ∧ ∀ x ∈ l, x.f0 ∈ up l n → LeP (vadd x.f4 v) x.f2 := by
  unfold admR at h ⊢
  split at h
  · simp at h
  rename_i h1
  split at h
  · simp at h
  rename_i h2
  split at h
  · rename_i h3
    rw [if_neg h1, if_neg h2, if_pos h3]
    have hv : MayP v := Classical.not_not.1 h1
    have hin : ∃ x, look l n = some x := by
      cases q : look l n with
      | none => rw [q] at h2; simp at h2
      | some x => exact ⟨x, rfl⟩
    have hsub : ∀ x ∈ l, x.f0 ∈ up l n → MayP (vadd x.f4 v) := fun x hx hm c => by
      have a := (hl.ok x hx).sub c; have b := hv c; have d := h3 x hx hm c; have e := (hl.ok x hx).lim c
      rw [of_vadd] at d ⊢; omega
    refine ⟨rfl, adm_right hl v hin (fun x hx e c => ?_) hsub h3, hv, hin, h3⟩
    have hm : x.f0 ∈ up l n := by obtain ⟨y, hy⟩ := hin; rw [e]; exact up_self hy
    have a := (hl.ok x hx).own c; have b := hv c; have d := hsub x hx hm c; have f := hl.sum c x hx
    have g : 0 ≤ csum c l x.f0 := sumBy_nonneg fun y hy => by
      split
      · exact ((hl.ok y hy).sub c).1
      · omega
    rw [of_vadd] at d ⊢; omega
  · simp at h
end Go.Proofs.Ytcgefpklljclgaa.Print

namespace Go.Proofs.Ytcgefpklljclgaa.Print
open Go.RowKit Go.Proofs.YtcgefpklljclgaaW.PrintWords Go.Proofs.YtcgefpklljclgaaW.PrintLast
set_option linter.unusedVariables false
set_option linter.unusedSimpArgs false
/-! trees made by numbers -/
theorem u8_bd {x : Int} (h : (Lit.int .u8 x).wf = true) : 0 ≤ x ∧ x ≤ 255 := by
  simp only [Lit.wf, Bool.and_eq_true, decide_eq_true_eq] at h
  exact h
def Bytes (ns : List Int) : Prop := ∀ x ∈ ns, 0 ≤ x ∧ x ≤ 255
theorem Bytes.rd {ns : List Int} (h : Bytes ns) (i : Int) : 0 ≤ rd ns i ∧ rd ns i ≤ 255 := by
  unfold Go.Proofs.YtcgefpklljclgaaW.PrintWords.rd
  rw [List.getD_eq_getElem?_getD]
  cases e : ns[i.toNat]? with
  | none => simp
  | some x => exact h x (List.mem_of_getElem? e)
/-- a name of one byte -/
def one (c : Int) : ByteArray := strOfNums [c]
structure MadeP (l : List Item) : Prop where
  right : RightP l
  len : l.length ≤ 24
  name : ∀ x ∈ l, ∃ c : Int, 97 ≤ c ∧ c ≤ 120 ∧ x.f0 = one c
  ver : ∀ x ∈ l, x.f5 = 1
  lim : ∀ x ∈ l, ∀ c : Comp, 20 ≤ c.of x.f2 ∧ c.of x.f2 ≤ 275
theorem made_nil : MadeP [] := ⟨right_nil, by simp, by simp, by simp, by simp⟩
theorem one_name {c : Int} (h : 97 ≤ c) : one c ≠ ⟨#[]⟩ ∧ (one c).size = 1 := by
  constructor
  · intro q
    have := congrArg ByteArray.size q
    rw [show (one c).size = 1 from strOfNums_size _] at this
    exact absurd this (by decide)
  · exact strOfNums_size _
theorem made_ins {l : List Item} (h : MadeP l) {n p : ByteArray} {v : Vec} {c : Int} (hc : 97 ≤ c ∧ c ≤ 120) (hn : n = one c) (hv : ∀ c : Comp, 20 ≤ c.of v ∧ c.of v ≤ 275) (hl : l.length < 24) (hr : RightP (insL l (newItem n p v))) : MadeP (insL l (newItem n p v)) where
  right := hr
  len := by rw [len_insL]; omega
  name := fun x hx => by
    rcases mem_insL.1 hx with rfl | hx
    · exact ⟨c, hc.1, hc.2, hn⟩
    · exact h.name x hx
  ver := fun x hx => by
    rcases mem_insL.1 hx with rfl | hx
    · rfl
    · exact h.ver x hx
  lim := fun x hx => by
    rcases mem_insL.1 hx with rfl | hx
    · exact hv
    · exact h.lim x hx
theorem made_adm {l : List Item} (h : MadeP l) {n : ByteArray} {v : Vec} (hr : RightP (admL l n v)) : MadeP (admL l n v) where
  right := hr
  len := by unfold admL; rw [List.length_map]; exact h.len
  name := fun x hx => by
    obtain ⟨y, hy, rfl⟩ := List.mem_map.1 hx
    exact h.name y hy
  ver := fun x hx => by
    obtain ⟨y, hy, rfl⟩ := List.mem_map.1 hx
    exact h.ver y hy
  lim := fun x hx => by
    obtain ⟨y, hy, rfl⟩ := List.mem_map.1 hx
    exact h.lim y hy
def MakesFrom (ns : List Int) (i : Int) : Prop := ∀ l, MadeP l → ∃ r, Ev (fun k => law12_Make.l0 k ns l i) r ∧ MadeP r
theorem tmod_in {a b : Int} (ha : 0 ≤ a) (hb : 0 < b) : 0 ≤ a.tmod b ∧ a.tmod b < b := by
  rw [Int.tmod_eq_emod_of_nonneg ha]; exact ⟨Int.emod_nonneg _ (by omega), Int.emod_lt_of_pos _ hb⟩
theorem tdiv_in {a b : Int} (ha : 0 ≤ a) (hb : 0 < b) : 0 ≤ a.tdiv b ∧ a.tdiv b ≤ a := by
  rw [Int.tdiv_eq_ediv_of_nonneg ha]; exact ⟨Int.ediv_nonneg ha (by omega), Int.ediv_le_self _ ha⟩
theorem made_j3 {ns : List Int} (hb : Bytes ns) (hs : ns.length ≤ 1000) {i : Int} (h0 : 0 ≤ i) (h2 : i + 2 < ns.length) (ih : MakesFrom ns (i + 3)) {l : List Item} (h : MadeP l) (hl : l.length < 24) (p : ByteArray) :
    ∃ r, Ev (fun k => law12_Make.j3 k ns l i p) r ∧ MadeP r := by
  have b1 := hb.rd (i + 1)
  have b2 := hb.rd (i + 2)
  have hlen := h.right.len
  have hnm : (wrap64 (97 + (Int.tmod (wrap64 ((l.length : Int) * 5)) 24))) % 256 = 97 + ((l.length : Int) * 5) % 24 := by
    rw [w64 (n := (l.length : Int) * 5) (by omega) (by omega), Int.tmod_eq_emod_of_nonneg (by omega), w64 (by omega) (by omega)]; omega
  generalize hc : 97 + ((l.length : Int) * 5) % 24 = c at hnm
  have hcb : 97 ≤ c ∧ c ≤ 120 := by omega
  have hlim : wrap64 (20 + wrap64 (rd ns (i + 1))) = 20 + rd ns (i + 1) := by rw [w64 (n := rd ns (i + 1)) (by omega) (by omega), w64 (by omega) (by omega)]
  obtain ⟨K, hK⟩ := r10_Create_ev (l := l) (by omega) (one c) p ⟨20 + rd ns (i + 1), 20 + rd ns (i + 1), 20 + rd ns (i + 1)⟩
  dsimp only at hK
  have hw1 : wrap64 (i + 1) = i + 1 := w64 (by omega) (by omega)
  have hw2 : wrap64 (i + 2) = i + 2 := w64 (by omega) (by omega)
  have hw3 : wrap64 (i + 3) = i + 3 := w64 (by omega) (by omega)
  have hr2 : wrap64 (rd ns (i + 2)) = rd ns (i + 2) := w64 (by omega) (by omega)
  by_cases hE : (creR l (one c) p ⟨20 + rd ns (i + 1), 20 + rd ns (i + 1), 20 + rd ns (i + 1)⟩).2 = 0
  · obtain ⟨e1, hR, hno, -, -, -, hv, -⟩ := creR_right h.right hE
    have hm := made_ins h (p := p) hcb rfl (v := ⟨20 + rd ns (i + 1), 20 + rd ns (i + 1), 20 + rd ns (i + 1)⟩) (fun c => by cases c <;> (simp only [Comp.of]; omega)) hl hR
    generalize hL : insL l (newItem (one c) p ⟨20 + rd ns (i + 1), 20 + rd ns (i + 1), 20 + rd ns (i + 1)⟩) = l1 at *
    have hl1 : 0 < l1.length := by rw [← hL, len_insL]; omega
    have hd := tdiv_in (a := rd ns (i + 2)) (b := 16) (by omega) (by omega)
    have hw4 : wrap64 (Int.tdiv (rd ns (i + 2)) 16) = Int.tdiv (rd ns (i + 2)) 16 := w64 (by omega) (by omega)
    have hq := tmod_in (a := Int.tdiv (rd ns (i + 2)) 16) (b := (l1.length : Int)) hd.1 (by omega)
    generalize hJ : Int.tmod (Int.tdiv (rd ns (i + 2)) 16) (l1.length : Int) = j at *
    obtain ⟨v, hv'⟩ : ∃ v : Vec, v = ⟨Int.tmod (rd ns (i + 2)) 16, wrap64 (Int.tdiv (Int.tmod (rd ns (i + 2)) 16) 2), Int.tmod (Int.tmod (rd ns (i + 2)) 16) 3⟩ := ⟨_, rfl⟩
    obtain ⟨K2, hK2⟩ := r10_Admit_ev hm.right (rd_T31 l1 j).f0 v
    dsimp only at hK2
    have main : ∀ r, Ev (fun k => law12_Make.l0 k ns (if (admR l1 (rd_T31 l1 j).f0 v).2 = 0 then (admR l1 (rd_T31 l1 j).f0 v).1 else l1) (i + 3)) r → Ev (fun k => law12_Make.j3 k ns l i p) r := by
      rintro r ⟨K3, hK3⟩
      refine ⟨K + K2 + K3 + 1, fun k hk => ?_⟩
      dsimp only at hK3
      obtain ⟨k, rfl⟩ : ∃ m, k = m + 1 := ⟨k - 1, by omega⟩
      simp only [law12_Make.j3]
      rw [hw1, hw2, hw3, hnm, hlim, hr2, if_pos (by omega), if_pos (by omega)]
      rw [show strOfNums [c] = one c from rfl, hK k (by omega)]
      simp only [Option.bind_some]
      rw [if_pos hE, if_pos (by omega), if_pos (by omega), e1, if_neg (by omega), hw4, hJ, if_pos hq.1, if_pos hq.2]
      have := hK2 k (by omega)
      rw [hv'] at this
      rw [this]
      simp only [Option.bind_some]
      rw [← hv']
      have := hK3 k (by omega)
      by_cases q : (admR l1 (rd_T31 l1 j).f0 v).2 = 0
      · rw [if_pos q] at this ⊢; exact this
      · rw [if_neg q] at this ⊢; exact this
    by_cases q : (admR l1 (rd_T31 l1 j).f0 v).2 = 0
    · rw [if_pos q] at main
      obtain ⟨e2, hR2, -⟩ := admR_right hm.right q
      rw [e2] at main
      obtain ⟨r, hr, hM⟩ := ih _ (made_adm hm hR2)
      exact ⟨r, main r hr, hM⟩
    · rw [if_neg q] at main
      obtain ⟨r, hr, hM⟩ := ih _ hm
      exact ⟨r, main r hr, hM⟩
  · obtain ⟨r, ⟨K3, hK3⟩, hM⟩ := ih l h
    dsimp only at hK3
    refine ⟨r, ⟨K + K3 + 1, fun k hk => ?_⟩, hM⟩
    obtain ⟨k, rfl⟩ : ∃ m, k = m + 1 := ⟨k - 1, by omega⟩
    simp only [law12_Make.j3]
    rw [hw1, hw2, hw3, hnm, hlim, if_pos (by omega), if_pos (by omega)]
    rw [show strOfNums [c] = one c from rfl, hK k (by omega)]
    simp only [Option.bind_some]
    rw [if_neg hE]
    exact hK3 k (by omega)
theorem made_step {ns : List Int} (hb : Bytes ns) (hs : ns.length ≤ 1000) {i : Int} (h0 : 0 ≤ i) (h2 : i + 2 < ns.length) (ih : MakesFrom ns (i + 3)) : MakesFrom ns i := by
  intro l h
  have hw2 : wrap64 (i + 2) = i + 2 := w64 (by omega) (by omega)
  have b0 := hb.rd i
  have hr0 : wrap64 (rd ns i) = rd ns i := w64 (by omega) (by omega)
  by_cases hl : l.length < 24
  · have h3 := made_j3 hb hs h0 h2 ih h hl
    have hj2 : ∀ b, (b = true → 0 < l.length) → ∃ r, Ev (fun k => law12_Make.j2 k ns l i (rd ns i) ⟨#[]⟩ b) r ∧ MadeP r := by
      intro b hbl
      cases b with
      | false =>
        obtain ⟨r, hr, hM⟩ := h3 ⟨#[]⟩
        refine ⟨r, Ev.step (fun k => ?_) hr, hM⟩
        simp only [law12_Make.j2, Bool.false_eq_true, if_false]
      | true =>
        have hpos := hbl rfl
        have hd := tdiv_in (a := rd ns i) (b := 3) (by omega) (by omega)
        have hw : wrap64 (Int.tdiv (rd ns i) 3) = Int.tdiv (rd ns i) 3 := w64 (by omega) (by omega)
        have hq := tmod_in (a := Int.tdiv (rd ns i) 3) (b := (l.length : Int)) hd.1 (by omega)
        obtain ⟨r, hr, hM⟩ := h3 (rd_T31 l (Int.tmod (Int.tdiv (rd ns i) 3) (l.length : Int))).f0
        refine ⟨r, Ev.step (fun k => ?_) hr, hM⟩
        simp only [law12_Make.j2, if_true]
        rw [hw, if_neg (by omega), if_pos hq.1, if_pos hq.2]
    have hj1 : ∃ r, Ev (fun k => law12_Make.j1 k ns l i true) r ∧ MadeP r := by
      by_cases hpos : 0 < l.length
      · obtain ⟨r, hr, hM⟩ := hj2 (decide ((Int.tmod (rd ns i) 3) > 0)) (fun _ => hpos)
        refine ⟨r, Ev.step (fun k => ?_) hr, hM⟩
        simp only [law12_Make.j1, if_true]
        rw [if_pos (by omega), if_pos (by omega), if_pos (by omega), hr0]
      · obtain ⟨r, hr, hM⟩ := hj2 false (fun q => by cases q)
        refine ⟨r, Ev.step (fun k => ?_) hr, hM⟩
        simp only [law12_Make.j1, if_true]
        rw [if_pos (by omega), if_pos (by omega), if_neg (by omega), hr0]
    obtain ⟨r, hr, hM⟩ := hj1
    refine ⟨r, Ev.step (fun k => ?_) hr, hM⟩
    simp only [law12_Make.l0]
    rw [hw2, if_pos (by omega), show decide ((l.length : Int) < 24) = true from decide_eq_true (by omega)]
  · refine ⟨l, Ev.step (f := fun k => law12_Make.j1 k ns l i false) (fun k => ?_) (Ev.step (f := fun _ => some l) (fun k => ?_) (Ev.now _)), h⟩
    · simp only [law12_Make.l0]
      rw [hw2, if_pos (by omega), show decide ((l.length : Int) < 24) = false from decide_eq_false (by omega)]
    · simp only [law12_Make.j1, Bool.false_eq_true, if_false]
theorem made_from {ns : List Int} (hb : Bytes ns) (hs : ns.length ≤ 1000) : ∀ (d : Nat) (i : Int), 0 ≤ i → i ≤ 1003 → (ns.length : Int) - i ≤ d → MakesFrom ns i
  | d, i, h0, h1, hd => by
    by_cases h2 : i + 2 < ns.length
    · cases d with
      | zero => omega
      | succ d => exact made_step hb hs h0 h2 (made_from hb hs d (i + 3) (by omega) (by omega) (by omega))
    · intro l h
      have hw2 : wrap64 (i + 2) = i + 2 := w64 (by omega) (by omega)
      refine ⟨l, Ev.step (f := fun k => law12_Make.j1 k ns l i false) (fun k => ?_) (Ev.step (f := fun _ => some l) (fun k => ?_) (Ev.now _)), h⟩
      · simp only [law12_Make.l0]
        rw [hw2, if_neg (by omega)]
      · simp only [law12_Make.j1, Bool.false_eq_true, if_false]
theorem made_all {ns : List Int} (hb : Bytes ns) (hs : ns.length ≤ 1000) : ∃ l, Ev (fun k => law12_Make.f k ns) l ∧ MadeP l := made_from hb hs ns.length 0 (by omega) (by omega) (by omega) [] made_nil
end Go.Proofs.Ytcgefpklljclgaa.Print

namespace Go.Proofs.Ytcgefpklljclgaa.Print
open Go.RowKit Go.Proofs.YtcgefpklljclgaaW.PrintWords Go.Proofs.YtcgefpklljclgaaW.PrintLast Go.Proofs.YtcgefpklljclgaaW.PrintMore
set_option linter.unusedVariables false
set_option linter.unusedSimpArgs false
/-! the program's way up -/
theorem tree_Up_l0 (l : List Item) (hl : l.length < 1000000) : ∀ (m : Nat) (n : ByteArray) (out : List ByteArray), out.length + m = l.length + 1 →
    Ev (fun k => tree_Up.l0 k l out (fnd l n)) (out ++ upGo l m n)
  | 0, n, out, hm => by
    rw [upGo.eq_1, List.append_nil]
    refine Ev.step (f := fun _ => some out) (fun k => ?_) (Ev.now _)
    simp only [tree_Up.l0]
    by_cases h : 0 ≤ fnd l n
    · rw [if_pos h, if_neg (by omega)]
    · rw [if_neg h]
  | m + 1, n, out, hm => by
    cases h : look l n with
    | none =>
      rw [upGo_none h, List.append_nil]
      refine Ev.step (f := fun _ => some out) (fun k => ?_) (Ev.now _)
      simp only [tree_Up.l0]
      rw [fnd_none h, if_neg (by omega)]
    | some x =>
      rw [upGo_some h]
      have h0 := fnd_ge.2 ⟨x, h⟩
      have h1 := fnd_lt l n
      obtain ⟨hx, hn⟩ := look_mem h
      refine Ev.step (f := fun k => tree_Up.l0 k l (out ++ [n]) (fnd l x.f1)) (fun k => ?_) ?_
      · simp only [tree_Up.l0]
        rw [if_pos h0, if_pos (by omega), if_pos h0, if_pos h1, if_pos (by omega), fnd_rd h, hn, tree_Find_eq]
        rfl
      · have := tree_Up_l0 l hl m x.f1 (out ++ [n]) (by simp; omega)
        simpa using this
theorem tree_Up_ev (l : List Item) (n : ByteArray) (hl : l.length < 1000000) : Ev (fun k => tree_Up.f k l n) (up l n) := by
  have := tree_Up_l0 l hl (l.length + 1) n [] (by simp)
  rw [List.nil_append] at this
  exact this
end Go.Proofs.Ytcgefpklljclgaa.Print

namespace Go.Proofs.Ytcgefpklljclgaa.Print
open Go.RowKit Go.Proofs.YtcgefpklljclgaaW.PrintWords Go.Proofs.YtcgefpklljclgaaW.PrintLast Go.Proofs.YtcgefpklljclgaaW.PrintMore
attribute [local go_sem] max2_int min2_int max_two min_two max_three min_three max_four min_four   -- for this text's walks alone
set_option linter.unusedVariables false
set_option linter.unusedSimpArgs false
/-! ### vec_Le: function 118 -/
def vec_Le.f (a0_0 : Int) (a0_1 : Int) (a0_2 : Int) (a1_0 : Int) (a1_1 : Int) (a1_2 : Int) : Option (Bool) := if a0_0 ≤ a1_0 then (if a0_1 ≤ a1_1 then (some (decide (a0_2 ≤ a1_2))) else (some false)) else (some false)
set_option maxHeartbeats 8000000 in
set_option maxRecDepth 100000 in
theorem vec_Le.calls (a0_0 : Int) (a0_1 : Int) (a0_2 : Int) (a1_0 : Int) (a1_1 : Int) (a1_2 : Int) (r : Bool) (w : World) (h : vec_Le.f a0_0 a0_1 a0_2 a1_0 a1_1 a1_2 = some r) :
  Calls Try.prog 118 #[.agg #[.int .i64 a0_0, .int .i64 a0_1, .int .i64 a0_2], .agg #[.int .i64 a1_0, .int .i64 a1_1, .int .i64 a1_2]] w fun e w' => e = .returned (.bool r) ∧ Below w.heap.size w w' := by
 have hu27 := Try.underlying27
 have HB := Aside0.mk (Below.refl w.heap.size w)
 have H : (if a0_0 ≤ a1_0 then (if a0_1 ≤ a1_1 then (some (decide (a0_2 ≤ a1_2))) else (some false)) else (some false)) = some r := h
 clear h
 by_cases c3 : a0_0 ≤ a1_0
 ·rw [if_pos c3] at H
  have c3b0 : decide (a0_0 ≤ a1_0) = true := decide_eq_true c3
  clear c3
  by_cases c4 : a0_1 ≤ a1_1
  ·rw [if_pos c4] at H
   have c4b0 : decide (a0_1 ≤ a1_1) = true := decide_eq_true c4
   clear c4
   obtain rfl := Option.some.inj H
   go_enter Try.func118, Try.ntmps118
   go_wp2_with (first | ((with_reducible refine gate_dst (N := 2) rfl ?_); refine box_event ?hg (N := 2) ?hd (cs := #[.int .i64 a0_0, .int .i64 a0_1, .int .i64 a0_2]) (t := 27) ?hr ?_; (case hd => rfl); (case hg => rfl); (case hr => first | (go_simp; done) | (go_simp; rfl)); intro gb1 hg w5 hbox hb; have n0_ := Aside0.mk (below_step (by repeat (first | (with_reducible first | exact HB.out | apply below_alloc | apply pw_below_drewN | apply below_drew1) | exact HB.out)) hb); have n1_ := Aside0.mk (hbox); have n2_ := Aside0.mk ((by rw [hg]; exact (below_size (by repeat (first | (with_reducible first | exact HB.out | apply below_alloc | apply pw_below_drewN | apply below_drew1) | exact HB.out))) : w.heap.size ≤ gb1)); have n3_ := Aside0.mk ((by rw [hg]; exact (below_size (by repeat (first | (with_reducible first | exact HB.out | apply below_alloc | apply pw_below_drewN | apply below_drew1) | exact HB.out))) : w.heap.size ≤ gb1)); clear HB; have HB := n0_; have BK1 := n1_; have GW1 := n2_; have GE1 := n3_; clear n0_ n1_ n2_ n3_; clear hb hbox hg) | ((with_reducible refine gate_dst (N := 3) rfl ?_); refine box_event ?hg (N := 3) ?hd (cs := #[.int .i64 a1_0, .int .i64 a1_1, .int .i64 a1_2]) (t := 27) ?hr ?_; (case hd => rfl); (case hg => rfl); (case hr => first | (go_simp; done) | (go_simp; rfl)); intro gb2 hg w6 hbox hb; have n0_ := Aside0.mk (blk_below (g := gb1) (o := .cells #[.int .i64 a0_0, .int .i64 a0_1, .int .i64 a0_2] 27 (0, 0)) (by (with_reducible repeat (first | refine blk_drewN ?_ _ | refine blk_drew ?_ | refine blk_alloc ?_ _)); exact BK1.out) hb); have n1_ := Aside0.mk (below_step (by repeat (first | (with_reducible first | exact HB.out | apply below_alloc | apply pw_below_drewN | apply below_drew1 | refine below_set ?_ GE1.out) | exact HB.out)) hb); have n2_ := Aside0.mk (hbox); have n3_ := Aside0.mk ((by rw [hg]; exact (below_size (by repeat (first | (with_reducible first | exact HB.out | apply below_alloc | apply pw_below_drewN | apply below_drew1 | refine below_set ?_ GE1.out) | exact HB.out))) : w.heap.size ≤ gb2)); have n4_ := Aside0.mk ((by rw [hg]; exact (below_size (by repeat (first | (with_reducible first | exact HB.out | apply below_alloc | apply pw_below_drewN | apply below_drew1 | refine below_set ?_ GE1.out) | exact HB.out))) : w.heap.size ≤ gb2)); have n5_ := Aside0.mk ((by rw [hg]; exact Nat.ne_of_lt (blk_lt (g := gb1) (o := .cells #[.int .i64 a0_0, .int .i64 a0_1, .int .i64 a0_2] 27 (0, 0)) (by (with_reducible repeat (first | refine blk_drewN ?_ _ | refine blk_drew ?_ | refine blk_alloc ?_ _)); exact BK1.out)) : gb1 ≠ gb2)); have n6_ := Aside0.mk ((by rw [hg]; exact Nat.ne_of_gt (blk_lt (g := gb1) (o := .cells #[.int .i64 a0_0, .int .i64 a0_1, .int .i64 a0_2] 27 (0, 0)) (by (with_reducible repeat (first | refine blk_drewN ?_ _ | refine blk_drew ?_ | refine blk_alloc ?_ _)); exact BK1.out)) : gb2 ≠ gb1)); clear BK1; clear HB; have BK1 := n0_; have HB := n1_; have BK2 := n2_; have GW2 := n3_; have GE2 := n4_; have NB1_2 := n5_; have NB2_1 := n6_; clear n0_ n1_ n2_ n3_ n4_ n5_ n6_; clear hb hbox hg; have hnb7 := NB1_2.out; have hnc7 := NB2_1.out; have hcz8_0 : w6.cell? ⟨gb1, 0, none⟩ = some (.int .i64 a0_0) := (blk_cell BK1.out 0).trans rfl; have hcz8_1 : w6.cell? ⟨gb1, 1, none⟩ = some (.int .i64 a0_1) := (blk_cell BK1.out 1).trans rfl; have hcz8_2 : w6.cell? ⟨gb1, 2, none⟩ = some (.int .i64 a0_2) := (blk_cell BK1.out 2).trans rfl; have hfz8_0 := blk_frozen BK1.out 0; have hfz8_1 := blk_frozen BK1.out 1; have hfz8_2 := blk_frozen BK1.out 2; have hcz9_0 : w6.cell? ⟨gb2, 0, none⟩ = some (.int .i64 a1_0) := (blk_cell BK2.out 0).trans rfl; have hcz9_1 : w6.cell? ⟨gb2, 1, none⟩ = some (.int .i64 a1_1) := (blk_cell BK2.out 1).trans rfl; have hcz9_2 : w6.cell? ⟨gb2, 2, none⟩ = some (.int .i64 a1_2) := (blk_cell BK2.out 2).trans rfl; have hfz9_0 := blk_frozen BK2.out 0; have hfz9_1 := blk_frozen BK2.out 1; have hfz9_2 := blk_frozen BK2.out 2))
   go_ret
   exact ⟨by first | rfl | (simp [errW_none, errW_some] <;> rfl) | (simp [*, errW_none, errW_some] <;> rfl), by repeat (first | (with_reducible first | exact HB.out | apply below_alloc | apply pw_below_drewN | apply below_drew1 | refine below_set ?_ GE1.out | refine below_set ?_ GE2.out) | exact HB.out)⟩
  ·rw [if_neg c4] at H
   have c4b0 : decide (a0_1 ≤ a1_1) = false := decide_eq_false c4
   clear c4
   obtain rfl := Option.some.inj H
   go_enter Try.func118, Try.ntmps118
   go_wp2_with (first | ((with_reducible refine gate_dst (N := 2) rfl ?_); refine box_event ?hg (N := 2) ?hd (cs := #[.int .i64 a0_0, .int .i64 a0_1, .int .i64 a0_2]) (t := 27) ?hr ?_; (case hd => rfl); (case hg => rfl); (case hr => first | (go_simp; done) | (go_simp; rfl)); intro gb1 hg w10 hbox hb; have n0_ := Aside0.mk (below_step (by repeat (first | (with_reducible first | exact HB.out | apply below_alloc | apply pw_below_drewN | apply below_drew1) | exact HB.out)) hb); have n1_ := Aside0.mk (hbox); have n2_ := Aside0.mk ((by rw [hg]; exact (below_size (by repeat (first | (with_reducible first | exact HB.out | apply below_alloc | apply pw_below_drewN | apply below_drew1) | exact HB.out))) : w.heap.size ≤ gb1)); have n3_ := Aside0.mk ((by rw [hg]; exact (below_size (by repeat (first | (with_reducible first | exact HB.out | apply below_alloc | apply pw_below_drewN | apply below_drew1) | exact HB.out))) : w.heap.size ≤ gb1)); clear HB; have HB := n0_; have BK1 := n1_; have GW1 := n2_; have GE1 := n3_; clear n0_ n1_ n2_ n3_; clear hb hbox hg) | ((with_reducible refine gate_dst (N := 3) rfl ?_); refine box_event ?hg (N := 3) ?hd (cs := #[.int .i64 a1_0, .int .i64 a1_1, .int .i64 a1_2]) (t := 27) ?hr ?_; (case hd => rfl); (case hg => rfl); (case hr => first | (go_simp; done) | (go_simp; rfl)); intro gb2 hg w11 hbox hb; have n0_ := Aside0.mk (blk_below (g := gb1) (o := .cells #[.int .i64 a0_0, .int .i64 a0_1, .int .i64 a0_2] 27 (0, 0)) (by (with_reducible repeat (first | refine blk_drewN ?_ _ | refine blk_drew ?_ | refine blk_alloc ?_ _)); exact BK1.out) hb); have n1_ := Aside0.mk (below_step (by repeat (first | (with_reducible first | exact HB.out | apply below_alloc | apply pw_below_drewN | apply below_drew1 | refine below_set ?_ GE1.out) | exact HB.out)) hb); have n2_ := Aside0.mk (hbox); have n3_ := Aside0.mk ((by rw [hg]; exact (below_size (by repeat (first | (with_reducible first | exact HB.out | apply below_alloc | apply pw_below_drewN | apply below_drew1 | refine below_set ?_ GE1.out) | exact HB.out))) : w.heap.size ≤ gb2)); have n4_ := Aside0.mk ((by rw [hg]; exact (below_size (by repeat (first | (with_reducible first | exact HB.out | apply below_alloc | apply pw_below_drewN | apply below_drew1 | refine below_set ?_ GE1.out) | exact HB.out))) : w.heap.size ≤ gb2)); have n5_ := Aside0.mk ((by rw [hg]; exact Nat.ne_of_lt (blk_lt (g := gb1) (o := .cells #[.int .i64 a0_0, .int .i64 a0_1, .int .i64 a0_2] 27 (0, 0)) (by (with_reducible repeat (first | refine blk_drewN ?_ _ | refine blk_drew ?_ | refine blk_alloc ?_ _)); exact BK1.out)) : gb1 ≠ gb2)); have n6_ := Aside0.mk ((by rw [hg]; exact Nat.ne_of_gt (blk_lt (g := gb1) (o := .cells #[.int .i64 a0_0, .int .i64 a0_1, .int .i64 a0_2] 27 (0, 0)) (by (with_reducible repeat (first | refine blk_drewN ?_ _ | refine blk_drew ?_ | refine blk_alloc ?_ _)); exact BK1.out)) : gb2 ≠ gb1)); clear BK1; clear HB; have BK1 := n0_; have HB := n1_; have BK2 := n2_; have GW2 := n3_; have GE2 := n4_; have NB1_2 := n5_; have NB2_1 := n6_; clear n0_ n1_ n2_ n3_ n4_ n5_ n6_; clear hb hbox hg; have hnb12 := NB1_2.out; have hnc12 := NB2_1.out; have hcz13_0 : w11.cell? ⟨gb1, 0, none⟩ = some (.int .i64 a0_0) := (blk_cell BK1.out 0).trans rfl; have hcz13_1 : w11.cell? ⟨gb1, 1, none⟩ = some (.int .i64 a0_1) := (blk_cell BK1.out 1).trans rfl; have hcz13_2 : w11.cell? ⟨gb1, 2, none⟩ = some (.int .i64 a0_2) := (blk_cell BK1.out 2).trans rfl; have hfz13_0 := blk_frozen BK1.out 0; have hfz13_1 := blk_frozen BK1.out 1; have hfz13_2 := blk_frozen BK1.out 2; have hcz14_0 : w11.cell? ⟨gb2, 0, none⟩ = some (.int .i64 a1_0) := (blk_cell BK2.out 0).trans rfl; have hcz14_1 : w11.cell? ⟨gb2, 1, none⟩ = some (.int .i64 a1_1) := (blk_cell BK2.out 1).trans rfl; have hcz14_2 : w11.cell? ⟨gb2, 2, none⟩ = some (.int .i64 a1_2) := (blk_cell BK2.out 2).trans rfl; have hfz14_0 := blk_frozen BK2.out 0; have hfz14_1 := blk_frozen BK2.out 1; have hfz14_2 := blk_frozen BK2.out 2))
   go_ret
   exact ⟨by first | rfl | (simp [errW_none, errW_some] <;> rfl) | (simp [*, errW_none, errW_some] <;> rfl), by repeat (first | (with_reducible first | exact HB.out | apply below_alloc | apply pw_below_drewN | apply below_drew1 | refine below_set ?_ GE1.out | refine below_set ?_ GE2.out) | exact HB.out)⟩
 ·rw [if_neg c3] at H
  have c3b0 : decide (a0_0 ≤ a1_0) = false := decide_eq_false c3
  clear c3
  obtain rfl := Option.some.inj H
  go_enter Try.func118, Try.ntmps118
  go_wp2_with (first | ((with_reducible refine gate_dst (N := 2) rfl ?_); refine box_event ?hg (N := 2) ?hd (cs := #[.int .i64 a0_0, .int .i64 a0_1, .int .i64 a0_2]) (t := 27) ?hr ?_; (case hd => rfl); (case hg => rfl); (case hr => first | (go_simp; done) | (go_simp; rfl)); intro gb1 hg w15 hbox hb; have n0_ := Aside0.mk (below_step (by repeat (first | (with_reducible first | exact HB.out | apply below_alloc | apply pw_below_drewN | apply below_drew1) | exact HB.out)) hb); have n1_ := Aside0.mk (hbox); have n2_ := Aside0.mk ((by rw [hg]; exact (below_size (by repeat (first | (with_reducible first | exact HB.out | apply below_alloc | apply pw_below_drewN | apply below_drew1) | exact HB.out))) : w.heap.size ≤ gb1)); have n3_ := Aside0.mk ((by rw [hg]; exact (below_size (by repeat (first | (with_reducible first | exact HB.out | apply below_alloc | apply pw_below_drewN | apply below_drew1) | exact HB.out))) : w.heap.size ≤ gb1)); clear HB; have HB := n0_; have BK1 := n1_; have GW1 := n2_; have GE1 := n3_; clear n0_ n1_ n2_ n3_; clear hb hbox hg) | ((with_reducible refine gate_dst (N := 3) rfl ?_); refine box_event ?hg (N := 3) ?hd (cs := #[.int .i64 a1_0, .int .i64 a1_1, .int .i64 a1_2]) (t := 27) ?hr ?_; (case hd => rfl); (case hg => rfl); (case hr => first | (go_simp; done) | (go_simp; rfl)); intro gb2 hg w16 hbox hb; have n0_ := Aside0.mk (blk_below (g := gb1) (o := .cells #[.int .i64 a0_0, .int .i64 a0_1, .int .i64 a0_2] 27 (0, 0)) (by (with_reducible repeat (first | refine blk_drewN ?_ _ | refine blk_drew ?_ | refine blk_alloc ?_ _)); exact BK1.out) hb); have n1_ := Aside0.mk (below_step (by repeat (first | (with_reducible first | exact HB.out | apply below_alloc | apply pw_below_drewN | apply below_drew1 | refine below_set ?_ GE1.out) | exact HB.out)) hb); have n2_ := Aside0.mk (hbox); have n3_ := Aside0.mk ((by rw [hg]; exact (below_size (by repeat (first | (with_reducible first | exact HB.out | apply below_alloc | apply pw_below_drewN | apply below_drew1 | refine below_set ?_ GE1.out) | exact HB.out))) : w.heap.size ≤ gb2)); have n4_ := Aside0.mk ((by rw [hg]; exact (below_size (by repeat (first | (with_reducible first | exact HB.out | apply below_alloc | apply pw_below_drewN | apply below_drew1 | refine below_set ?_ GE1.out) | exact HB.out))) : w.heap.size ≤ gb2)); have n5_ := Aside0.mk ((by rw [hg]; exact Nat.ne_of_lt (blk_lt (g := gb1) (o := .cells #[.int .i64 a0_0, .int .i64 a0_1, .int .i64 a0_2] 27 (0, 0)) (by (with_reducible repeat (first | refine blk_drewN ?_ _ | refine blk_drew ?_ | refine blk_alloc ?_ _)); exact BK1.out)) : gb1 ≠ gb2)); have n6_ := Aside0.mk ((by rw [hg]; exact Nat.ne_of_gt (blk_lt (g := gb1) (o := .cells #[.int .i64 a0_0, .int .i64 a0_1, .int .i64 a0_2] 27 (0, 0)) (by (with_reducible repeat (first | refine blk_drewN ?_ _ | refine blk_drew ?_ | refine blk_alloc ?_ _)); exact BK1.out)) : gb2 ≠ gb1)); clear BK1; clear HB; have BK1 := n0_; have HB := n1_; have BK2 := n2_; have GW2 := n3_; have GE2 := n4_; have NB1_2 := n5_; have NB2_1 := n6_; clear n0_ n1_ n2_ n3_ n4_ n5_ n6_; clear hb hbox hg; have hnb17 := NB1_2.out; have hnc17 := NB2_1.out; have hcz18_0 : w16.cell? ⟨gb1, 0, none⟩ = some (.int .i64 a0_0) := (blk_cell BK1.out 0).trans rfl; have hcz18_1 : w16.cell? ⟨gb1, 1, none⟩ = some (.int .i64 a0_1) := (blk_cell BK1.out 1).trans rfl; have hcz18_2 : w16.cell? ⟨gb1, 2, none⟩ = some (.int .i64 a0_2) := (blk_cell BK1.out 2).trans rfl; have hfz18_0 := blk_frozen BK1.out 0; have hfz18_1 := blk_frozen BK1.out 1; have hfz18_2 := blk_frozen BK1.out 2; have hcz19_0 : w16.cell? ⟨gb2, 0, none⟩ = some (.int .i64 a1_0) := (blk_cell BK2.out 0).trans rfl; have hcz19_1 : w16.cell? ⟨gb2, 1, none⟩ = some (.int .i64 a1_1) := (blk_cell BK2.out 1).trans rfl; have hcz19_2 : w16.cell? ⟨gb2, 2, none⟩ = some (.int .i64 a1_2) := (blk_cell BK2.out 2).trans rfl; have hfz19_0 := blk_frozen BK2.out 0; have hfz19_1 := blk_frozen BK2.out 1; have hfz19_2 := blk_frozen BK2.out 2))
  go_ret
  exact ⟨by first | rfl | (simp [errW_none, errW_some] <;> rfl) | (simp [*, errW_none, errW_some] <;> rfl), by repeat (first | (with_reducible first | exact HB.out | apply below_alloc | apply pw_below_drewN | apply below_drew1 | refine below_set ?_ GE1.out | refine below_set ?_ GE2.out) | exact HB.out)⟩
end Go.Proofs.Ytcgefpklljclgaa.Print

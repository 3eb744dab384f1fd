/- A part of the proof of TreeMade: the machine's side by the kit's print, contracts and lemmas by this session. -/
import Derived.Test.YtcgefpklljclgaaProg
import Derived.Below
import Derived.Deep.Draws
import Derived.Deep.AppendLies
import Derived.Maps.AppendAt
import Derived.OwnWalk
import Derived.Laws.BytesArg
import Derived.Laws.MakeOwn
import Derived.Laws.OwnMore
import Derived.Deep.OwnRows
import Derived.Tactics
import Derived.Lib.ConvBytes
import Derived.Laws.Slices
import Derived.WalkKit
import Derived.KernelRfl
import Derived.RowKit3
import Derived.Deep.LoopGhost
import Derived.Deep.QuietTactic
import Derived.BigQuiet
import Derived.WideLaws
import Derived.Deep.DeepCutAuto
import Derived.Deep.CutBlock
import Derived.Deep.RegionHeld3
import Derived.Laws.Rows
import Derived.Lib.AppendStr
import Derived.ArgAppend
import Derived.Laws.IdiomCopy
import Derived.OrdersHeld
import Derived.Laws.BitsLemmas
import Derived.RowKit
import Derived.Shelf.Abstract
import Derived.Test.YtcgefpklljclgaaBTreeMade0
namespace Go.Proofs.Ytcgefpklljclgaa.Print
open Go.RowKit Go.Proofs.YtcgefpklljclgaaW.PrintWords Go.Proofs.YtcgefpklljclgaaW.PrintLast Go.Proofs.YtcgefpklljclgaaW.PrintMore
attribute [local go_sem] max2_int min2_int max_two min_two max_three min_three max_four min_four   -- for this text's walks alone
set_option linter.unusedVariables false
set_option linter.unusedSimpArgs false
def errW : Option Int → Value
  | none => .nilIface
  | some c => .iface 0 (.int .i64 c)
theorem errW_none : errW none = .nilIface := rfl
theorem errW_some (c : Int) : errW (some c) = .iface 0 (.int .i64 c) := rfl
theorem info9 : (Try.prog.info? 9).map (fun i => (i.zero, i.size, i.bytes)) = some (some (.string ⟨#[]⟩), 1, 16) := by kernel_rfl
theorem info27 : (Try.prog.info? 27).map (fun i => (i.zero, i.size, i.bytes)) = some (some (.agg #[(.int .i64 0), (.int .i64 0), (.int .i64 0)]), 3, 24) := by kernel_rfl
theorem info31 : (Try.prog.info? 31).map (fun i => (i.zero, i.size, i.bytes)) = some (some (.agg #[(.string ⟨#[]⟩), (.string ⟨#[]⟩), (.int .i64 0), (.int .i64 0), (.int .i64 0), (.int .i64 0), (.int .i64 0), (.int .i64 0), (.int .i64 0), (.int .i64 0), (.int .i64 0), (.int .i64 0)]), 12, 112) := by kernel_rfl
-- the values' own types
/-! #### struct type 27 -/
structure S27 where
  f0 : Int
  f1 : Int
  f2 : Int
def z27 : S27 := ⟨(0 : Int), (0 : Int), (0 : Int)⟩
def k27 : Kd S27 := Kd.iso (Kd.pair (Kd.int .i64) (Kd.pair (Kd.int .i64) (Kd.int .i64))) (fun x : S27 => (x.f0, x.f1, x.f2))
theorem k27_open {w : World} {x : S27} {cs : List Value} (h : k27.K w x cs) : cs = [.int .i64 x.f0, .int .i64 x.f1, .int .i64 x.f2] := by
  obtain ⟨_, _, rfl, rfl, ⟨_, _, rfl, rfl, rfl⟩⟩ := h
  exact rfl
theorem k27_openM {w : World} {base : Nat} {ok : Nat → Prop} {x : S27} {cs : List Value} (h : k27.M w base ok x cs) : cs = [.int .i64 x.f0, .int .i64 x.f1, .int .i64 x.f2] := by
  obtain ⟨_, _, rfl, rfl, ⟨_, _, rfl, rfl, rfl⟩⟩ := h
  exact rfl
theorem k27_mkM (w : World) (base : Nat) (ok : Nat → Prop) (x : S27)  : k27.M w base ok x [.int .i64 x.f0, .int .i64 x.f1, .int .i64 x.f2] := ⟨[.int .i64 x.f0], [.int .i64 x.f1, .int .i64 x.f2], rfl, rfl, ⟨[.int .i64 x.f1], [.int .i64 x.f2], rfl, rfl, rfl⟩⟩
def rd_T27 (xs : List S27) (i : Int) : S27 := xs.getD i.toNat z27
theorem at_T27 {w : World} {A : Option Addr} {n : Nat} {xs : List S27} (h : Kd.C k27 w A n xs) (i : Int) (h0 : 0 ≤ i) (h1 : i < n) : ∃ ad , A = some ad ∧ w.cell? (ad.add (i.toNat * 3)) = some (.int .i64 (rd_T27 xs i).f0) ∧ w.cell? ⟨(ad.add (i.toNat * 3)).block, (ad.add (i.toNat * 3)).off + 1, none⟩ = some (.int .i64 (rd_T27 xs i).f1) ∧ w.cell? ⟨(ad.add (i.toNat * 3)).block, (ad.add (i.toNat * 3)).off + 2, none⟩ = some (.int .i64 (rd_T27 xs i).f2) := by
  obtain ⟨ad, c, e, _, hK, hc0⟩ := Kd.C_get h z27 i h0 h1
  have hc : ∀ j u, c[j]? = some u → w.cell? (ad.add (i.toNat * 3 + j)) = some u := hc0
  obtain rfl := k27_open hK
  exact ⟨ad, e, hc 0 _ rfl, by rw [← add_field _ _ 1 (by omega)]; exact hc 1 _ rfl, by rw [← add_field _ _ 2 (by omega)]; exact hc 2 _ rfl⟩
/-! #### struct type 31 -/
structure S31 where
  f0 : ByteArray
  f1 : ByteArray
  f2 : S27
  f3 : S27
  f4 : S27
  f5 : Int
def z31 : S31 := ⟨(⟨#[]⟩ : ByteArray), (⟨#[]⟩ : ByteArray), z27, z27, z27, (0 : Int)⟩
def k31 : Kd S31 := Kd.iso (Kd.pair Kd.string (Kd.pair Kd.string (Kd.pair k27 (Kd.pair k27 (Kd.pair k27 (Kd.int .i64)))))) (fun x : S31 => (x.f0, x.f1, x.f2, x.f3, x.f4, x.f5))
theorem k31_open {w : World} {x : S31} {cs : List Value} (h : k31.K w x cs) : cs = [.string x.f0, .string x.f1, .int .i64 x.f2.f0, .int .i64 x.f2.f1, .int .i64 x.f2.f2, .int .i64 x.f3.f0, .int .i64 x.f3.f1, .int .i64 x.f3.f2, .int .i64 x.f4.f0, .int .i64 x.f4.f1, .int .i64 x.f4.f2, .int .i64 x.f5] := by
  obtain ⟨_, _, rfl, rfl, ⟨_, _, rfl, rfl, ⟨_, _, rfl, s2, ⟨_, _, rfl, s5, ⟨_, _, rfl, s8, rfl⟩⟩⟩⟩⟩ := h
  obtain rfl := k27_open s2
  obtain rfl := k27_open s5
  obtain rfl := k27_open s8
  exact rfl
theorem k31_openM {w : World} {base : Nat} {ok : Nat → Prop} {x : S31} {cs : List Value} (h : k31.M w base ok x cs) : cs = [.string x.f0, .string x.f1, .int .i64 x.f2.f0, .int .i64 x.f2.f1, .int .i64 x.f2.f2, .int .i64 x.f3.f0, .int .i64 x.f3.f1, .int .i64 x.f3.f2, .int .i64 x.f4.f0, .int .i64 x.f4.f1, .int .i64 x.f4.f2, .int .i64 x.f5] := by
  obtain ⟨_, _, rfl, rfl, ⟨_, _, rfl, rfl, ⟨_, _, rfl, s2, ⟨_, _, rfl, s5, ⟨_, _, rfl, s8, rfl⟩⟩⟩⟩⟩ := h
  obtain rfl := k27_openM s2
  obtain rfl := k27_openM s5
  obtain rfl := k27_openM s8
  exact rfl
theorem k31_mkM (w : World) (base : Nat) (ok : Nat → Prop) (x : S31)  : k31.M w base ok x [.string x.f0, .string x.f1, .int .i64 x.f2.f0, .int .i64 x.f2.f1, .int .i64 x.f2.f2, .int .i64 x.f3.f0, .int .i64 x.f3.f1, .int .i64 x.f3.f2, .int .i64 x.f4.f0, .int .i64 x.f4.f1, .int .i64 x.f4.f2, .int .i64 x.f5] := ⟨[.string x.f0], [.string x.f1, .int .i64 x.f2.f0, .int .i64 x.f2.f1, .int .i64 x.f2.f2, .int .i64 x.f3.f0, .int .i64 x.f3.f1, .int .i64 x.f3.f2, .int .i64 x.f4.f0, .int .i64 x.f4.f1, .int .i64 x.f4.f2, .int .i64 x.f5], rfl, rfl, ⟨[.string x.f1], [.int .i64 x.f2.f0, .int .i64 x.f2.f1, .int .i64 x.f2.f2, .int .i64 x.f3.f0, .int .i64 x.f3.f1, .int .i64 x.f3.f2, .int .i64 x.f4.f0, .int .i64 x.f4.f1, .int .i64 x.f4.f2, .int .i64 x.f5], rfl, rfl, ⟨[.int .i64 x.f2.f0, .int .i64 x.f2.f1, .int .i64 x.f2.f2], [.int .i64 x.f3.f0, .int .i64 x.f3.f1, .int .i64 x.f3.f2, .int .i64 x.f4.f0, .int .i64 x.f4.f1, .int .i64 x.f4.f2, .int .i64 x.f5], rfl, (k27_mkM w base ok x.f2 ), ⟨[.int .i64 x.f3.f0, .int .i64 x.f3.f1, .int .i64 x.f3.f2], [.int .i64 x.f4.f0, .int .i64 x.f4.f1, .int .i64 x.f4.f2, .int .i64 x.f5], rfl, (k27_mkM w base ok x.f3 ), ⟨[.int .i64 x.f4.f0, .int .i64 x.f4.f1, .int .i64 x.f4.f2], [.int .i64 x.f5], rfl, (k27_mkM w base ok x.f4 ), rfl⟩⟩⟩⟩⟩
def rd_T31 (xs : List S31) (i : Int) : S31 := xs.getD i.toNat z31
theorem at_T31 {w : World} {A : Option Addr} {n : Nat} {xs : List S31} (h : Kd.C k31 w A n xs) (i : Int) (h0 : 0 ≤ i) (h1 : i < n) : ∃ ad , A = some ad ∧ w.cell? (ad.add (i.toNat * 12)) = some (.string (rd_T31 xs i).f0) ∧ w.cell? ⟨(ad.add (i.toNat * 12)).block, (ad.add (i.toNat * 12)).off + 1, none⟩ = some (.string (rd_T31 xs i).f1) ∧ w.cell? ⟨(ad.add (i.toNat * 12)).block, (ad.add (i.toNat * 12)).off + 2, none⟩ = some (.int .i64 (rd_T31 xs i).f2.f0) ∧ w.cell? ⟨(ad.add (i.toNat * 12)).block, (ad.add (i.toNat * 12)).off + 3, none⟩ = some (.int .i64 (rd_T31 xs i).f2.f1) ∧ w.cell? ⟨(ad.add (i.toNat * 12)).block, (ad.add (i.toNat * 12)).off + 4, none⟩ = some (.int .i64 (rd_T31 xs i).f2.f2) ∧ w.cell? ⟨(ad.add (i.toNat * 12)).block, (ad.add (i.toNat * 12)).off + 5, none⟩ = some (.int .i64 (rd_T31 xs i).f3.f0) ∧ w.cell? ⟨(ad.add (i.toNat * 12)).block, (ad.add (i.toNat * 12)).off + 6, none⟩ = some (.int .i64 (rd_T31 xs i).f3.f1) ∧ w.cell? ⟨(ad.add (i.toNat * 12)).block, (ad.add (i.toNat * 12)).off + 7, none⟩ = some (.int .i64 (rd_T31 xs i).f3.f2) ∧ w.cell? ⟨(ad.add (i.toNat * 12)).block, (ad.add (i.toNat * 12)).off + 8, none⟩ = some (.int .i64 (rd_T31 xs i).f4.f0) ∧ w.cell? ⟨(ad.add (i.toNat * 12)).block, (ad.add (i.toNat * 12)).off + 9, none⟩ = some (.int .i64 (rd_T31 xs i).f4.f1) ∧ w.cell? ⟨(ad.add (i.toNat * 12)).block, (ad.add (i.toNat * 12)).off + 10, none⟩ = some (.int .i64 (rd_T31 xs i).f4.f2) ∧ w.cell? ⟨(ad.add (i.toNat * 12)).block, (ad.add (i.toNat * 12)).off + 11, none⟩ = some (.int .i64 (rd_T31 xs i).f5) := by
  obtain ⟨ad, c, e, _, hK, hc0⟩ := Kd.C_get h z31 i h0 h1
  have hc : ∀ j u, c[j]? = some u → w.cell? (ad.add (i.toNat * 12 + j)) = some u := hc0
  obtain rfl := k31_open hK
  exact ⟨ad, e, hc 0 _ rfl, by rw [← add_field _ _ 1 (by omega)]; exact hc 1 _ rfl, by rw [← add_field _ _ 2 (by omega)]; exact hc 2 _ rfl, by rw [← add_field _ _ 3 (by omega)]; exact hc 3 _ rfl, by rw [← add_field _ _ 4 (by omega)]; exact hc 4 _ rfl, by rw [← add_field _ _ 5 (by omega)]; exact hc 5 _ rfl, by rw [← add_field _ _ 6 (by omega)]; exact hc 6 _ rfl, by rw [← add_field _ _ 7 (by omega)]; exact hc 7 _ rfl, by rw [← add_field _ _ 8 (by omega)]; exact hc 8 _ rfl, by rw [← add_field _ _ 9 (by omega)]; exact hc 9 _ rfl, by rw [← add_field _ _ 10 (by omega)]; exact hc 10 _ rfl, by rw [← add_field _ _ 11 (by omega)]; exact hc 11 _ rfl⟩
/-! #### struct type 37 -/
structure S37 where
  f0 : ByteArray
  f1 : Int
/-! #### struct type 54 -/
structure S54 where
  f0 : ByteArray
  f1 : ByteArray
  f2 : S27
  f3 : Int
/-! #### struct type 180 -/
structure S180 where
  f0 : ByteArray
  f1 : ByteArray
  f2 : S27
/-! #### struct type 58 -/
structure S58 where
  f0 : Int
  f1 : ByteArray
  f2 : ByteArray
  f3 : S27
end Go.Proofs.Ytcgefpklljclgaa.Print

namespace Go.Proofs.Ytcgefpklljclgaa.Print
open Go.RowKit Go.Proofs.YtcgefpklljclgaaW.PrintWords Go.Proofs.YtcgefpklljclgaaW.PrintLast Go.Proofs.YtcgefpklljclgaaW.PrintMore
attribute [local go_sem] max2_int min2_int max_two min_two max_three min_three max_four min_four   -- for this text's walks alone
set_option linter.unusedVariables false
set_option linter.unusedSimpArgs false
/-! ### idx_Item: function 127 -/
/-- the first place from i on whose element is so; -1: none -/
def fidx {α : Type} (p : α → Bool) : List α → Int → Int
  | [], _ => -1
  | x :: l, i => if p x = true then i else fidx p l (i + 1)
theorem fidx_drop {α : Type} (p : α → Bool) (z : α) (l : List α) (i : Nat) (h : i < l.length) : fidx p (l.drop i) i = if p (l.getD i z) = true then (i : Int) else fidx p (l.drop (i + 1)) ((i + 1 : Nat) : Int) := by
  rw [List.drop_eq_getElem_cons h, List.getD_eq_getElem?_getD, List.getElem?_eq_getElem h]
  rfl
def itemCells (x : S31) : Array Value := #[.string x.f0, .string x.f1, .int .i64 x.f2.f0, .int .i64 x.f2.f1, .int .i64 x.f2.f2, .int .i64 x.f3.f0, .int .i64 x.f3.f1, .int .i64 x.f3.f2, .int .i64 x.f4.f0, .int .i64 x.f4.f1, .int .i64 x.f4.f2, .int .i64 x.f5]
set_option maxHeartbeats 1000000 in
set_option maxRecDepth 100000 in
theorem idxItem_calls (g : Nat) (lb : Array Value) (p : S31 → Bool) (eg : ∀ args w, (callFunc g args).run Try.prog w = .ok (.enter g args) w) (w : World)
    (hp : ∀ W x, Below w.heap.size w W → Calls Try.prog g (#[.agg (itemCells x)] ++ lb) W fun e w' => e = .returned (.bool (p x)) ∧ Below W.heap.size W w')
    (A : Option Addr) (c : Nat) (l : List S31) (hr0 : Kd.C k31 w A l.length l) (hc0 : l.length ≤ c) :
    Calls Try.prog 127 #[.slice A l.length c, .func (.func g) #[] lb] w fun e w' => e = .returned (.int .i64 (fidx p l 0)) ∧ Below w.heap.size w w' := by
  have hu31 := Try.underlying31
  have HR0 := Aside0.mk hr0
  have HP := Aside0.mk hp
  have HEG := Aside0.mk eg
  have hm : l.length ≤ 9223372036854775807 := hr0.2.1
  clear hr0 hp eg
  go_enter Try.func127, Try.ntmps127
  go_wp2
  go_loopg [5, 8] l.length (fun kq s5 s8 wr => ∃ i : Nat, i ≤ l.length ∧ l.length - i ≤ kq ∧ s8 = .int .i64 i ∧ Aside0 (Below w.heap.size w wr) ∧ Aside0 (fidx p l 0 = fidx p (l.drop i) i))
  case atStart => exact ⟨0, by omega, by omega, rfl, ⟨Below.refl _ _⟩, ⟨rfl⟩⟩
  case round =>
    obtain ⟨i, hi, hg, rfl, HB, HF⟩ := hrel
    by_cases hlt : i < l.length
    · have hltz : (i : Int) < (l.length : Int) := by omega
      obtain ⟨ad, e1, h0, h1, h2, h3, h4, h5, h6, h7, h8, h9, h10, h11⟩ := at_T31 HR0.out (i : Int) (by omega) (by omega)
      cases e1
      simp only [Int.toNat_natCast] at h0 h1 h2 h3 h4 h5 h6 h7 h8 h9 h10 h11
      replace h0 := (HB.out.cell (World.block_lt_of_cell? w _ h0)).trans h0
      replace h1 := (HB.out.cell (World.block_lt_of_cell? w _ h1)).trans h1
      replace h2 := (HB.out.cell (World.block_lt_of_cell? w _ h2)).trans h2
      replace h3 := (HB.out.cell (World.block_lt_of_cell? w _ h3)).trans h3
      replace h4 := (HB.out.cell (World.block_lt_of_cell? w _ h4)).trans h4
      replace h5 := (HB.out.cell (World.block_lt_of_cell? w _ h5)).trans h5
      replace h6 := (HB.out.cell (World.block_lt_of_cell? w _ h6)).trans h6
      replace h7 := (HB.out.cell (World.block_lt_of_cell? w _ h7)).trans h7
      replace h8 := (HB.out.cell (World.block_lt_of_cell? w _ h8)).trans h8
      replace h9 := (HB.out.cell (World.block_lt_of_cell? w _ h9)).trans h9
      replace h10 := (HB.out.cell (World.block_lt_of_cell? w _ h10)).trans h10
      replace h11 := (HB.out.cell (World.block_lt_of_cell? w _ h11)).trans h11
      have hd : Aside0 _ := ⟨fidx_drop p z31 l i hlt⟩
      have HC := Aside0.mk (HP.out wr (rd_T31 l i) HB.out)
      generalize hy : rd_T31 l i = y at h0 h1 h2 h3 h4 h5 h6 h7 h8 h9 h10 h11 HC
      have hq : p (l.getD i z31) = p y := by rw [← hy]; simp [rd_T31]
      have HQ := Aside0.mk hq
      clear hy hq
      have eg := HEG.out
      cases hb : p y with
      | true =>
        rw [hb] at HC HQ
        clear hb
        go_wp2_with (go_at_fn g;refine HC.out.mono ?_;rintro e w' ⟨rfl, hb'⟩;have HB' := Aside0.mk (below_step HB.out hb');clear hb')
        go_ret
        refine ⟨?_, HB'.out⟩
        rw [HF.out, hd.out, HQ.out]
        rfl
      | false =>
        rw [hb] at HC HQ
        clear hb
        go_wp2_with (go_at_fn g;refine HC.out.mono ?_;rintro e w' ⟨rfl, hb'⟩;have HB' := Aside0.mk (below_step HB.out hb');clear hb')
        go_roundg (l.length - (i + 1))
        case measure => omega
        case rel => exact ⟨i + 1, by omega, by omega, by go_num, HB', ⟨by rw [HF.out, hd.out, HQ.out];rfl⟩⟩
    · obtain rfl : i = l.length := by omega
      go_wp2
      go_ret
      refine ⟨?_, HB.out⟩
      rw [HF.out, List.drop_length]
      rfl
end Go.Proofs.Ytcgefpklljclgaa.Print

namespace Go.Proofs.Ytcgefpklljclgaa.Print
open Go.RowKit Go.Proofs.YtcgefpklljclgaaW.PrintWords Go.Proofs.YtcgefpklljclgaaW.PrintLast Go.Proofs.YtcgefpklljclgaaW.PrintMore
attribute [local go_sem] max2_int min2_int max_two min_two max_three min_three max_four min_four   -- for this text's walks alone
set_option linter.unusedVariables false
set_option linter.unusedSimpArgs false
theorem eqA27 (d : Nat) (w : World) (x0 y0 : Int) (x1 y1 : Int) (x2 y2 : Int) :
    (Op.equalIn (d + 2) 27 (.agg #[.int .i64 x0, .int .i64 x1, .int .i64 x2]) (.agg #[.int .i64 y0, .int .i64 y1, .int .i64 y2])).run Try.prog w = .ok (x0 == y0 && (x1 == y1 && (x2 == y2))) w := by
  refine eqA_of Try.underlying27 (by kernel_rfl) ?_
  refine eqf_cons (by rfl) (by go_simp; rfl) (by go_simp; rfl) (by go_simp) ?_
  refine eqf_cons (by rfl) (by go_simp; rfl) (by go_simp; rfl) (by go_simp) ?_
  exact eqf_last (by rfl) (by go_simp; rfl) (by go_simp; rfl) (by go_simp)
end Go.Proofs.Ytcgefpklljclgaa.Print

namespace Go.Proofs.Ytcgefpklljclgaa.Print
open Go.RowKit Go.Proofs.YtcgefpklljclgaaW.PrintWords Go.Proofs.YtcgefpklljclgaaW.PrintLast Go.Proofs.YtcgefpklljclgaaW.PrintMore
attribute [local go_sem] max2_int min2_int max_two min_two max_three min_three max_four min_four   -- for this text's walks alone
set_option linter.unusedVariables false
set_option linter.unusedSimpArgs false
/-! ### r10_Le: function 34 -/
def r10_Le.f (a0_0 : Int) (a0_1 : Int) (a0_2 : Int) (a1_0 : Int) (a1_1 : Int) (a1_2 : Int) : Option (Bool) := if a0_0 ≤ a1_0 then (if a0_1 ≤ a1_1 then (some (decide (a0_2 ≤ a1_2))) else (some false)) else (some false)
set_option maxHeartbeats 8000000 in
set_option maxRecDepth 100000 in
theorem r10_Le.calls (a0_0 : Int) (a0_1 : Int) (a0_2 : Int) (a1_0 : Int) (a1_1 : Int) (a1_2 : Int) (r : Bool) (w : World) (h : r10_Le.f a0_0 a0_1 a0_2 a1_0 a1_1 a1_2 = some r) :
  Calls Try.prog 34 #[.agg #[.int .i64 a0_0, .int .i64 a0_1, .int .i64 a0_2], .agg #[.int .i64 a1_0, .int .i64 a1_1, .int .i64 a1_2]] w fun e w' => e = .returned (.bool r) ∧ Below w.heap.size w w' := by
 have hu27 := Try.underlying27
 have HB := Aside0.mk (Below.refl w.heap.size w)
 have H : (if a0_0 ≤ a1_0 then (if a0_1 ≤ a1_1 then (some (decide (a0_2 ≤ a1_2))) else (some false)) else (some false)) = some r := h
 clear h
 by_cases c3 : a0_0 ≤ a1_0
 ·rw [if_pos c3] at H
  have c3b0 : decide (a0_0 ≤ a1_0) = true := decide_eq_true c3
  clear c3
  by_cases c4 : a0_1 ≤ a1_1
  ·rw [if_pos c4] at H
   have c4b0 : decide (a0_1 ≤ a1_1) = true := decide_eq_true c4
   clear c4
   obtain rfl := Option.some.inj H
   go_enter Try.func34, Try.ntmps34
   go_wp2_with (first|((with_reducible refine gate_dst (N := 2) rfl ?_);refine box_event ?hg (N := 2) ?hd (cs := #[.int .i64 a0_0, .int .i64 a0_1, .int .i64 a0_2]) (t := 27) ?hr ?_;(case hd => rfl);(case hg => rfl);(case hr => first|(go_simp;done)|(go_simp;rfl));intro gb1 hg w5 hbox hb;have n0_ := Aside0.mk (below_step (by repeat (first|(with_reducible first|exact HB.out|apply below_alloc|apply pw_below_drewN|apply below_drew1)|exact HB.out)) hb);have n1_ := Aside0.mk (hbox);have n2_ := Aside0.mk ((by rw [hg];exact (below_size (by repeat (first|(with_reducible first|exact HB.out|apply below_alloc|apply pw_below_drewN|apply below_drew1)|exact HB.out))) : w.heap.size ≤ gb1));have n3_ := Aside0.mk ((by rw [hg];exact (below_size (by repeat (first|(with_reducible first|exact HB.out|apply below_alloc|apply pw_below_drewN|apply below_drew1)|exact HB.out))) : w.heap.size ≤ gb1));clear HB;have HB := n0_;have BK1 := n1_;have GW1 := n2_;have GE1 := n3_;clear n0_ n1_ n2_ n3_;clear hb hbox hg)|((with_reducible refine gate_dst (N := 3) rfl ?_);refine box_event ?hg (N := 3) ?hd (cs := #[.int .i64 a1_0, .int .i64 a1_1, .int .i64 a1_2]) (t := 27) ?hr ?_;(case hd => rfl);(case hg => rfl);(case hr => first|(go_simp;done)|(go_simp;rfl));intro gb2 hg w6 hbox hb;have n0_ := Aside0.mk (blk_below (g := gb1) (o := .cells #[.int .i64 a0_0, .int .i64 a0_1, .int .i64 a0_2] 27 (0, 0)) (by (with_reducible repeat (first|refine blk_drewN ?_ _|refine blk_drew ?_|refine blk_alloc ?_ _));exact BK1.out) hb);have n1_ := Aside0.mk (below_step (by repeat (first|(with_reducible first|exact HB.out|apply below_alloc|apply pw_below_drewN|apply below_drew1|refine below_set ?_ GE1.out)|exact HB.out)) hb);have n2_ := Aside0.mk (hbox);have n3_ := Aside0.mk ((by rw [hg];exact (below_size (by repeat (first|(with_reducible first|exact HB.out|apply below_alloc|apply pw_below_drewN|apply below_drew1|refine below_set ?_ GE1.out)|exact HB.out))) : w.heap.size ≤ gb2));have n4_ := Aside0.mk ((by rw [hg];exact (below_size (by repeat (first|(with_reducible first|exact HB.out|apply below_alloc|apply pw_below_drewN|apply below_drew1|refine below_set ?_ GE1.out)|exact HB.out))) : w.heap.size ≤ gb2));have n5_ := Aside0.mk ((by rw [hg];exact Nat.ne_of_lt (blk_lt (g := gb1) (o := .cells #[.int .i64 a0_0, .int .i64 a0_1, .int .i64 a0_2] 27 (0, 0)) (by (with_reducible repeat (first|refine blk_drewN ?_ _|refine blk_drew ?_|refine blk_alloc ?_ _));exact BK1.out)) : gb1 ≠ gb2));have n6_ := Aside0.mk ((by rw [hg];exact Nat.ne_of_gt (blk_lt (g := gb1) (o := .cells #[.int .i64 a0_0, .int .i64 a0_1, .int .i64 a0_2] 27 (0, 0)) (by (with_reducible repeat (first|refine blk_drewN ?_ _|refine blk_drew ?_|refine blk_alloc ?_ _));exact BK1.out)) : gb2 ≠ gb1));clear BK1;clear HB;have BK1 := n0_;have HB := n1_;have BK2 := n2_;have GW2 := n3_;have GE2 := n4_;have NB1_2 := n5_;have NB2_1 := n6_;clear n0_ n1_ n2_ n3_ n4_ n5_ n6_;clear hb hbox hg;have hnb7 := NB1_2.out;have hnc7 := NB2_1.out;have hcz8_0 : w6.cell? ⟨gb1, 0, none⟩ = some (.int .i64 a0_0) := (blk_cell BK1.out 0).trans rfl;have hcz8_1 : w6.cell? ⟨gb1, 1, none⟩ = some (.int .i64 a0_1) := (blk_cell BK1.out 1).trans rfl;have hcz8_2 : w6.cell? ⟨gb1, 2, none⟩ = some (.int .i64 a0_2) := (blk_cell BK1.out 2).trans rfl;have hfz8_0 := blk_frozen BK1.out 0;have hfz8_1 := blk_frozen BK1.out 1;have hfz8_2 := blk_frozen BK1.out 2;have hcz9_0 : w6.cell? ⟨gb2, 0, none⟩ = some (.int .i64 a1_0) := (blk_cell BK2.out 0).trans rfl;have hcz9_1 : w6.cell? ⟨gb2, 1, none⟩ = some (.int .i64 a1_1) := (blk_cell BK2.out 1).trans rfl;have hcz9_2 : w6.cell? ⟨gb2, 2, none⟩ = some (.int .i64 a1_2) := (blk_cell BK2.out 2).trans rfl;have hfz9_0 := blk_frozen BK2.out 0;have hfz9_1 := blk_frozen BK2.out 1;have hfz9_2 := blk_frozen BK2.out 2))
   go_ret
   exact ⟨by first|rfl|(simp [errW_none, errW_some] <;> rfl)|(simp [*, errW_none, errW_some] <;> rfl), by repeat (first|(with_reducible first|exact HB.out|apply below_alloc|apply pw_below_drewN|apply below_drew1|refine below_set ?_ GE1.out|refine below_set ?_ GE2.out)|exact HB.out)⟩
  ·rw [if_neg c4] at H
   have c4b0 : decide (a0_1 ≤ a1_1) = false := decide_eq_false c4
   clear c4
   obtain rfl := Option.some.inj H
   go_enter Try.func34, Try.ntmps34
   go_wp2_with (first|((with_reducible refine gate_dst (N := 2) rfl ?_);refine box_event ?hg (N := 2) ?hd (cs := #[.int .i64 a0_0, .int .i64 a0_1, .int .i64 a0_2]) (t := 27) ?hr ?_;(case hd => rfl);(case hg => rfl);(case hr => first|(go_simp;done)|(go_simp;rfl));intro gb1 hg w10 hbox hb;have n0_ := Aside0.mk (below_step (by repeat (first|(with_reducible first|exact HB.out|apply below_alloc|apply pw_below_drewN|apply below_drew1)|exact HB.out)) hb);have n1_ := Aside0.mk (hbox);have n2_ := Aside0.mk ((by rw [hg];exact (below_size (by repeat (first|(with_reducible first|exact HB.out|apply below_alloc|apply pw_below_drewN|apply below_drew1)|exact HB.out))) : w.heap.size ≤ gb1));have n3_ := Aside0.mk ((by rw [hg];exact (below_size (by repeat (first|(with_reducible first|exact HB.out|apply below_alloc|apply pw_below_drewN|apply below_drew1)|exact HB.out))) : w.heap.size ≤ gb1));clear HB;have HB := n0_;have BK1 := n1_;have GW1 := n2_;have GE1 := n3_;clear n0_ n1_ n2_ n3_;clear hb hbox hg)|((with_reducible refine gate_dst (N := 3) rfl ?_);refine box_event ?hg (N := 3) ?hd (cs := #[.int .i64 a1_0, .int .i64 a1_1, .int .i64 a1_2]) (t := 27) ?hr ?_;(case hd => rfl);(case hg => rfl);(case hr => first|(go_simp;done)|(go_simp;rfl));intro gb2 hg w11 hbox hb;have n0_ := Aside0.mk (blk_below (g := gb1) (o := .cells #[.int .i64 a0_0, .int .i64 a0_1, .int .i64 a0_2] 27 (0, 0)) (by (with_reducible repeat (first|refine blk_drewN ?_ _|refine blk_drew ?_|refine blk_alloc ?_ _));exact BK1.out) hb);have n1_ := Aside0.mk (below_step (by repeat (first|(with_reducible first|exact HB.out|apply below_alloc|apply pw_below_drewN|apply below_drew1|refine below_set ?_ GE1.out)|exact HB.out)) hb);have n2_ := Aside0.mk (hbox);have n3_ := Aside0.mk ((by rw [hg];exact (below_size (by repeat (first|(with_reducible first|exact HB.out|apply below_alloc|apply pw_below_drewN|apply below_drew1|refine below_set ?_ GE1.out)|exact HB.out))) : w.heap.size ≤ gb2));have n4_ := Aside0.mk ((by rw [hg];exact (below_size (by repeat (first|(with_reducible first|exact HB.out|apply below_alloc|apply pw_below_drewN|apply below_drew1|refine below_set ?_ GE1.out)|exact HB.out))) : w.heap.size ≤ gb2));have n5_ := Aside0.mk ((by rw [hg];exact Nat.ne_of_lt (blk_lt (g := gb1) (o := .cells #[.int .i64 a0_0, .int .i64 a0_1, .int .i64 a0_2] 27 (0, 0)) (by (with_reducible repeat (first|refine blk_drewN ?_ _|refine blk_drew ?_|refine blk_alloc ?_ _));exact BK1.out)) : gb1 ≠ gb2));have n6_ := Aside0.mk ((by rw [hg];exact Nat.ne_of_gt (blk_lt (g := gb1) (o := .cells #[.int .i64 a0_0, .int .i64 a0_1, .int .i64 a0_2] 27 (0, 0)) (by (with_reducible repeat (first|refine blk_drewN ?_ _|refine blk_drew ?_|refine blk_alloc ?_ _));exact BK1.out)) : gb2 ≠ gb1));clear BK1;clear HB;have BK1 := n0_;have HB := n1_;have BK2 := n2_;have GW2 := n3_;have GE2 := n4_;have NB1_2 := n5_;have NB2_1 := n6_;clear n0_ n1_ n2_ n3_ n4_ n5_ n6_;clear hb hbox hg;have hnb12 := NB1_2.out;have hnc12 := NB2_1.out;have hcz13_0 : w11.cell? ⟨gb1, 0, none⟩ = some (.int .i64 a0_0) := (blk_cell BK1.out 0).trans rfl;have hcz13_1 : w11.cell? ⟨gb1, 1, none⟩ = some (.int .i64 a0_1) := (blk_cell BK1.out 1).trans rfl;have hcz13_2 : w11.cell? ⟨gb1, 2, none⟩ = some (.int .i64 a0_2) := (blk_cell BK1.out 2).trans rfl;have hfz13_0 := blk_frozen BK1.out 0;have hfz13_1 := blk_frozen BK1.out 1;have hfz13_2 := blk_frozen BK1.out 2;have hcz14_0 : w11.cell? ⟨gb2, 0, none⟩ = some (.int .i64 a1_0) := (blk_cell BK2.out 0).trans rfl;have hcz14_1 : w11.cell? ⟨gb2, 1, none⟩ = some (.int .i64 a1_1) := (blk_cell BK2.out 1).trans rfl;have hcz14_2 : w11.cell? ⟨gb2, 2, none⟩ = some (.int .i64 a1_2) := (blk_cell BK2.out 2).trans rfl;have hfz14_0 := blk_frozen BK2.out 0;have hfz14_1 := blk_frozen BK2.out 1;have hfz14_2 := blk_frozen BK2.out 2))
   go_ret
   exact ⟨by first|rfl|(simp [errW_none, errW_some] <;> rfl)|(simp [*, errW_none, errW_some] <;> rfl), by repeat (first|(with_reducible first|exact HB.out|apply below_alloc|apply pw_below_drewN|apply below_drew1|refine below_set ?_ GE1.out|refine below_set ?_ GE2.out)|exact HB.out)⟩
 ·rw [if_neg c3] at H
  have c3b0 : decide (a0_0 ≤ a1_0) = false := decide_eq_false c3
  clear c3
  obtain rfl := Option.some.inj H
  go_enter Try.func34, Try.ntmps34
  go_wp2_with (first|((with_reducible refine gate_dst (N := 2) rfl ?_);refine box_event ?hg (N := 2) ?hd (cs := #[.int .i64 a0_0, .int .i64 a0_1, .int .i64 a0_2]) (t := 27) ?hr ?_;(case hd => rfl);(case hg => rfl);(case hr => first|(go_simp;done)|(go_simp;rfl));intro gb1 hg w15 hbox hb;have n0_ := Aside0.mk (below_step (by repeat (first|(with_reducible first|exact HB.out|apply below_alloc|apply pw_below_drewN|apply below_drew1)|exact HB.out)) hb);have n1_ := Aside0.mk (hbox);have n2_ := Aside0.mk ((by rw [hg];exact (below_size (by repeat (first|(with_reducible first|exact HB.out|apply below_alloc|apply pw_below_drewN|apply below_drew1)|exact HB.out))) : w.heap.size ≤ gb1));have n3_ := Aside0.mk ((by rw [hg];exact (below_size (by repeat (first|(with_reducible first|exact HB.out|apply below_alloc|apply pw_below_drewN|apply below_drew1)|exact HB.out))) : w.heap.size ≤ gb1));clear HB;have HB := n0_;have BK1 := n1_;have GW1 := n2_;have GE1 := n3_;clear n0_ n1_ n2_ n3_;clear hb hbox hg)|((with_reducible refine gate_dst (N := 3) rfl ?_);refine box_event ?hg (N := 3) ?hd (cs := #[.int .i64 a1_0, .int .i64 a1_1, .int .i64 a1_2]) (t := 27) ?hr ?_;(case hd => rfl);(case hg => rfl);(case hr => first|(go_simp;done)|(go_simp;rfl));intro gb2 hg w16 hbox hb;have n0_ := Aside0.mk (blk_below (g := gb1) (o := .cells #[.int .i64 a0_0, .int .i64 a0_1, .int .i64 a0_2] 27 (0, 0)) (by (with_reducible repeat (first|refine blk_drewN ?_ _|refine blk_drew ?_|refine blk_alloc ?_ _));exact BK1.out) hb);have n1_ := Aside0.mk (below_step (by repeat (first|(with_reducible first|exact HB.out|apply below_alloc|apply pw_below_drewN|apply below_drew1|refine below_set ?_ GE1.out)|exact HB.out)) hb);have n2_ := Aside0.mk (hbox);have n3_ := Aside0.mk ((by rw [hg];exact (below_size (by repeat (first|(with_reducible first|exact HB.out|apply below_alloc|apply pw_below_drewN|apply below_drew1|refine below_set ?_ GE1.out)|exact HB.out))) : w.heap.size ≤ gb2));have n4_ := Aside0.mk ((by rw [hg];exact (below_size (by repeat (first|(with_reducible first|exact HB.out|apply below_alloc|apply pw_below_drewN|apply below_drew1|refine below_set ?_ GE1.out)|exact HB.out))) : w.heap.size ≤ gb2));have n5_ := Aside0.mk ((by rw [hg];exact Nat.ne_of_lt (blk_lt (g := gb1) (o := .cells #[.int .i64 a0_0, .int .i64 a0_1, .int .i64 a0_2] 27 (0, 0)) (by (with_reducible repeat (first|refine blk_drewN ?_ _|refine blk_drew ?_|refine blk_alloc ?_ _));exact BK1.out)) : gb1 ≠ gb2));have n6_ := Aside0.mk ((by rw [hg];exact Nat.ne_of_gt (blk_lt (g := gb1) (o := .cells #[.int .i64 a0_0, .int .i64 a0_1, .int .i64 a0_2] 27 (0, 0)) (by (with_reducible repeat (first|refine blk_drewN ?_ _|refine blk_drew ?_|refine blk_alloc ?_ _));exact BK1.out)) : gb2 ≠ gb1));clear BK1;clear HB;have BK1 := n0_;have HB := n1_;have BK2 := n2_;have GW2 := n3_;have GE2 := n4_;have NB1_2 := n5_;have NB2_1 := n6_;clear n0_ n1_ n2_ n3_ n4_ n5_ n6_;clear hb hbox hg;have hnb17 := NB1_2.out;have hnc17 := NB2_1.out;have hcz18_0 : w16.cell? ⟨gb1, 0, none⟩ = some (.int .i64 a0_0) := (blk_cell BK1.out 0).trans rfl;have hcz18_1 : w16.cell? ⟨gb1, 1, none⟩ = some (.int .i64 a0_1) := (blk_cell BK1.out 1).trans rfl;have hcz18_2 : w16.cell? ⟨gb1, 2, none⟩ = some (.int .i64 a0_2) := (blk_cell BK1.out 2).trans rfl;have hfz18_0 := blk_frozen BK1.out 0;have hfz18_1 := blk_frozen BK1.out 1;have hfz18_2 := blk_frozen BK1.out 2;have hcz19_0 : w16.cell? ⟨gb2, 0, none⟩ = some (.int .i64 a1_0) := (blk_cell BK2.out 0).trans rfl;have hcz19_1 : w16.cell? ⟨gb2, 1, none⟩ = some (.int .i64 a1_1) := (blk_cell BK2.out 1).trans rfl;have hcz19_2 : w16.cell? ⟨gb2, 2, none⟩ = some (.int .i64 a1_2) := (blk_cell BK2.out 2).trans rfl;have hfz19_0 := blk_frozen BK2.out 0;have hfz19_1 := blk_frozen BK2.out 1;have hfz19_2 := blk_frozen BK2.out 2))
  go_ret
  exact ⟨by first|rfl|(simp [errW_none, errW_some] <;> rfl)|(simp [*, errW_none, errW_some] <;> rfl), by repeat (first|(with_reducible first|exact HB.out|apply below_alloc|apply pw_below_drewN|apply below_drew1|refine below_set ?_ GE1.out|refine below_set ?_ GE2.out)|exact HB.out)⟩
end Go.Proofs.Ytcgefpklljclgaa.Print

namespace Go.Proofs.Ytcgefpklljclgaa.Print
open Go.RowKit Go.Proofs.YtcgefpklljclgaaW.PrintWords Go.Proofs.YtcgefpklljclgaaW.PrintLast Go.Proofs.YtcgefpklljclgaaW.PrintMore
attribute [local go_sem] max2_int min2_int max_two min_two max_three min_three max_four min_four   -- for this text's walks alone
set_option linter.unusedVariables false
set_option linter.unusedSimpArgs false
/-! ### r10_Find: function 50 -/
def r10_Find.l0 : Nat → List (S31) → ByteArray → Int → Option (Int)
 | 0, _, _, _ => none
 | k + 1, x0, x1, x5 => if x5 < (x0.length : Int) then (if 0 ≤ x5 then (if ((rd_T31 x0 x5).f0).toList = x1.toList then (some x5) else (r10_Find.l0 k x0 x1 (wrap64 (x5 + 1)))) else (none)) else (some (-1))
def r10_Find.f (k : Nat) (l0 : List (S31)) (a1 : ByteArray) : Option (Int) := r10_Find.l0 k l0 a1 0
theorem r10_Find.mono_l : ∀ k, (∀ y0 y1 y2, LeO (r10_Find.l0 k y0 y1 y2) (r10_Find.l0 (k + 1) y0 y1 y2))
 | 0 => fun _ _ _ r h => by simp [r10_Find.l0] at h
 | k + 1 => by
  have ih0 := r10_Find.mono_l k
  ·intro y0 y1 y2
   unfold r10_Find.l0
   repeat' first
   | (with_reducible exact ih0 _ _ _)
   | (with_reducible exact LeO.refl _)
   | (with_reducible exact LeO.none _)
   | (with_reducible refine LeO.ite ?_ ?_)
   | (with_reducible refine LeO.bind ?_ (fun _ => ?_))
   | exact ih0 _ _ _
   | exact LeO.none _
   | refine LeO.ite ?_ ?_
   | refine LeO.bind ?_ (fun _ => ?_)
theorem r10_Find.mono : ∀ a0 a1 k, LeO (r10_Find.f k a0 a1) (r10_Find.f (k + 1) a0 a1) := by
 intro a0 a1 k
 have ih0 := r10_Find.mono_l k
 unfold r10_Find.f
 repeat' first
   | (with_reducible exact ih0 _ _ _)
   | (with_reducible exact LeO.refl _)
   | (with_reducible exact LeO.none _)
   | (with_reducible refine LeO.ite ?_ ?_)
   | (with_reducible refine LeO.bind ?_ (fun _ => ?_))
   | exact ih0 _ _ _
   | exact LeO.none _
   | refine LeO.ite ?_ ?_
   | refine LeO.bind ?_ (fun _ => ?_)
set_option maxHeartbeats 8000000 in
set_option maxRecDepth 100000 in
theorem r10_Find.calls (k : Nat) (A0 : Option Addr) (c0 : Nat) (l0 : List (S31)) (a1 : ByteArray) (r : Int) (w : World) (hr0 : Kd.C k31 w A0 l0.length l0) (hc0 : l0.length ≤ c0) (h : r10_Find.f k l0 a1 = some r) :
  Calls Try.prog 50 #[.slice A0 l0.length c0, .string a1] w fun e w' => e = .returned (.int .i64 r) ∧ Drawn0 w w' := by
 have HR0 := Aside0.mk hr0
 have HC0 := Aside0.mk hc0
 clear hr0 hc0
 have H : (r10_Find.l0 k l0 a1 0) = some r := h
 clear h
 have H' := Aside0.mk H
 clear H
 go_enter Try.func50, Try.ntmps50
 go_wp2
 go_loopg [5] k (fun kq v5 w' => ∃ (x5_1 : Int), v5 = .int .i64 x5_1 ∧ Aside0 (r10_Find.l0 kq l0 a1 x5_1 = some r) ∧ Aside0 (kq ≤ k) ∧ Drawn0 w w')
 case atStart => exact ⟨(0), (by first | rfl | (simp; done) | (simp [*]; done)), H', ⟨Nat.le_refl _⟩, by repeat (first | exact Drawn0.refl _ | apply Drawn0.step)⟩
 case round =>
  clear H'
  try clear p2
  obtain ⟨x5_1, rfl, HA, HK1, ⟨m1, rfl⟩⟩ := hrel
  cases gk with
  | zero => exact absurd HA.out (by simp [r10_Find.l0])
  | succ k1 =>
   have H := HA.out
   clear HA
   simp only [r10_Find.l0] at H
   by_cases c3 : x5_1 < (l0.length : Int)
   ·rw [if_pos c3] at H
    have c3b0 : decide (x5_1 < (l0.length : Int)) = true := decide_eq_true c3
    clear c3
    by_cases c4 : 0 ≤ x5_1
    ·rw [if_pos c4] at H
     have c4b0 : decide (0 ≤ x5_1) = true := decide_eq_true c4
     clear c4
     by_cases c5 : ((rd_T31 l0 x5_1).f0).toList = a1.toList
     ·rw [if_pos c5] at H
      have c5b0 : (((rd_T31 l0 x5_1).f0).toList == a1.toList) = true := beq_iff_eq.mpr c5
      have c5b1 : (((rd_T31 l0 x5_1).f0).toList != a1.toList) = false := bne_eq_false_iff_eq.mpr c5
      clear c5
      obtain rfl := Option.some.inj H
      have p1 : 0 ≤ (x5_1 : Int) := of_decide_eq_true (by first|(with_reducible assumption)|assumption)
      have q1 : x5_1 < (l0.length : Int) := of_decide_eq_true (by first|(with_reducible assumption)|assumption)
      obtain ⟨ad1, e1, hx1_0, hx1_1, hx1_2, hx1_3, hx1_4, hx1_5, hx1_6, hx1_7, hx1_8, hx1_9, hx1_10, hx1_11⟩ := at_T31 HR0.out x5_1 p1 q1
      cases e1
      replace p1 := eq_true p1
      replace q1 := eq_true q1
      go_wp2
      go_ret
      exact ⟨by first | rfl | (simp; done) | (simp [*]; done), by repeat (first | exact Drawn0.refl _ | apply Drawn0.step)⟩
     ·rw [if_neg c5] at H
      have c5b0 : (((rd_T31 l0 x5_1).f0).toList == a1.toList) = false := beq_eq_false_iff_ne.mpr c5
      have c5b1 : (((rd_T31 l0 x5_1).f0).toList != a1.toList) = true := bne_iff_ne.mpr c5
      have H' := Aside0.mk H
      clear H
      have p1 : 0 ≤ (x5_1 : Int) := of_decide_eq_true (by first|(with_reducible assumption)|assumption)
      have q1 : x5_1 < (l0.length : Int) := of_decide_eq_true (by first|(with_reducible assumption)|assumption)
      obtain ⟨ad1, e1, hx1_0, hx1_1, hx1_2, hx1_3, hx1_4, hx1_5, hx1_6, hx1_7, hx1_8, hx1_9, hx1_10, hx1_11⟩ := at_T31 HR0.out x5_1 p1 q1
      cases e1
      replace p1 := eq_true p1
      replace q1 := eq_true q1
      go_wp2
      go_roundg k1
      case measure => have := HK1.out; omega
      case rel => exact ⟨(wrap64 (x5_1 + 1)), (by first|rfl|(simp;done)|(simp [*];done)), H', ⟨by have := HK1.out;omega⟩, by repeat (first|exact Drawn0.refl _|apply Drawn0.step)⟩
    ·rw [if_neg c4] at H
     exact absurd H (by simp)
   ·rw [if_neg c3] at H
    have c3b0 : decide (x5_1 < (l0.length : Int)) = false := decide_eq_false c3
    clear c3
    obtain rfl := Option.some.inj H
    go_wp2
    go_ret
    exact ⟨by first | rfl | (simp; done) | (simp [*]; done), by repeat (first | exact Drawn0.refl _ | apply Drawn0.step)⟩
end Go.Proofs.Ytcgefpklljclgaa.Print

namespace Go.Proofs.Ytcgefpklljclgaa.Print
open Go.RowKit Go.Proofs.YtcgefpklljclgaaW.PrintWords Go.Proofs.YtcgefpklljclgaaW.PrintLast Go.Proofs.YtcgefpklljclgaaW.PrintMore
attribute [local go_sem] max2_int min2_int max_two min_two max_three min_three max_four min_four   -- for this text's walks alone
set_option linter.unusedVariables false
set_option linter.unusedSimpArgs false
/-! ### r10_Add: function 63 -/
def r10_Add.f (a0_0 : Int) (a0_1 : Int) (a0_2 : Int) (a1_0 : Int) (a1_1 : Int) (a1_2 : Int) : Option (Int × Int × Int) := some (wrap64 (a0_0 + a1_0), wrap64 (a0_1 + a1_1), wrap64 (a0_2 + a1_2))
set_option maxHeartbeats 8000000 in
set_option maxRecDepth 100000 in
theorem r10_Add.calls (a0_0 : Int) (a0_1 : Int) (a0_2 : Int) (a1_0 : Int) (a1_1 : Int) (a1_2 : Int) (r1 : Int) (r2 : Int) (r3 : Int) (w : World) (h : r10_Add.f a0_0 a0_1 a0_2 a1_0 a1_1 a1_2 = some (r1, r2, r3)) :
  Calls Try.prog 63 #[.agg #[.int .i64 a0_0, .int .i64 a0_1, .int .i64 a0_2], .agg #[.int .i64 a1_0, .int .i64 a1_1, .int .i64 a1_2]] w fun e w' => e = .returned (.agg #[.int .i64 r1, .int .i64 r2, .int .i64 r3]) ∧ Below w.heap.size w w' := by
 have hu27 := Try.underlying27
 have HB := Aside0.mk (Below.refl w.heap.size w)
 have H : (some (wrap64 (a0_0 + a1_0), wrap64 (a0_1 + a1_1), wrap64 (a0_2 + a1_2))) = some (r1, r2, r3) := h
 clear h
 simp only [Option.some.injEq, Prod.mk.injEq] at H
 obtain ⟨rfl, rfl, rfl⟩ := H
 go_enter Try.func63, Try.ntmps63
 go_wp2_with (first|((with_reducible refine gate_dst (N := 2) rfl ?_);refine box_event ?hg (N := 2) ?hd (cs := #[.int .i64 a0_0, .int .i64 a0_1, .int .i64 a0_2]) (t := 27) ?hr ?_;(case hd => rfl);(case hg => rfl);(case hr => first|(go_simp;done)|(go_simp;rfl));intro gb1 hg w3 hbox hb;have n0_ := Aside0.mk (below_step (by repeat (first|(with_reducible first|exact HB.out|apply below_alloc|apply pw_below_drewN|apply below_drew1)|exact HB.out)) hb);have n1_ := Aside0.mk (hbox);have n2_ := Aside0.mk ((by rw [hg];exact (below_size (by repeat (first|(with_reducible first|exact HB.out|apply below_alloc|apply pw_below_drewN|apply below_drew1)|exact HB.out))) : w.heap.size ≤ gb1));have n3_ := Aside0.mk ((by rw [hg];exact (below_size (by repeat (first|(with_reducible first|exact HB.out|apply below_alloc|apply pw_below_drewN|apply below_drew1)|exact HB.out))) : w.heap.size ≤ gb1));clear HB;have HB := n0_;have BK1 := n1_;have GW1 := n2_;have GE1 := n3_;clear n0_ n1_ n2_ n3_;clear hb hbox hg)|((with_reducible refine gate_dst (N := 3) rfl ?_);refine box_event ?hg (N := 3) ?hd (cs := #[.int .i64 a1_0, .int .i64 a1_1, .int .i64 a1_2]) (t := 27) ?hr ?_;(case hd => rfl);(case hg => rfl);(case hr => first|(go_simp;done)|(go_simp;rfl));intro gb2 hg w4 hbox hb;have n0_ := Aside0.mk (blk_below (g := gb1) (o := .cells #[.int .i64 a0_0, .int .i64 a0_1, .int .i64 a0_2] 27 (0, 0)) (by (with_reducible repeat (first|refine blk_drewN ?_ _|refine blk_drew ?_|refine blk_alloc ?_ _));exact BK1.out) hb);have n1_ := Aside0.mk (below_step (by repeat (first|(with_reducible first|exact HB.out|apply below_alloc|apply pw_below_drewN|apply below_drew1|refine below_set ?_ GE1.out)|exact HB.out)) hb);have n2_ := Aside0.mk (hbox);have n3_ := Aside0.mk ((by rw [hg];exact (below_size (by repeat (first|(with_reducible first|exact HB.out|apply below_alloc|apply pw_below_drewN|apply below_drew1|refine below_set ?_ GE1.out)|exact HB.out))) : w.heap.size ≤ gb2));have n4_ := Aside0.mk ((by rw [hg];exact (below_size (by repeat (first|(with_reducible first|exact HB.out|apply below_alloc|apply pw_below_drewN|apply below_drew1|refine below_set ?_ GE1.out)|exact HB.out))) : w.heap.size ≤ gb2));have n5_ := Aside0.mk ((by rw [hg];exact Nat.ne_of_lt (blk_lt (g := gb1) (o := .cells #[.int .i64 a0_0, .int .i64 a0_1, .int .i64 a0_2] 27 (0, 0)) (by (with_reducible repeat (first|refine blk_drewN ?_ _|refine blk_drew ?_|refine blk_alloc ?_ _));exact BK1.out)) : gb1 ≠ gb2));have n6_ := Aside0.mk ((by rw [hg];exact Nat.ne_of_gt (blk_lt (g := gb1) (o := .cells #[.int .i64 a0_0, .int .i64 a0_1, .int .i64 a0_2] 27 (0, 0)) (by (with_reducible repeat (first|refine blk_drewN ?_ _|refine blk_drew ?_|refine blk_alloc ?_ _));exact BK1.out)) : gb2 ≠ gb1));clear BK1;clear HB;have BK1 := n0_;have HB := n1_;have BK2 := n2_;have GW2 := n3_;have GE2 := n4_;have NB1_2 := n5_;have NB2_1 := n6_;clear n0_ n1_ n2_ n3_ n4_ n5_ n6_;clear hb hbox hg)|((with_reducible refine gate_dst (N := 4) rfl ?_);refine box_event ?hg (N := 4) ?hd (cs := #[.int .i64 0, .int .i64 0, .int .i64 0]) (t := 27) ?hr ?_;(case hd => rfl);(case hg => rfl);(case hr => first|(go_simp;done)|(go_simp;rfl));intro gb3 hg w5 hbox hb;have n0_ := Aside0.mk (blk_below (g := gb1) (o := .cells #[.int .i64 a0_0, .int .i64 a0_1, .int .i64 a0_2] 27 (0, 0)) (by (with_reducible repeat (first|refine blk_drewN ?_ _|refine blk_drew ?_|refine blk_alloc ?_ _));exact BK1.out) hb);have n1_ := Aside0.mk (blk_below (g := gb2) (o := .cells #[.int .i64 a1_0, .int .i64 a1_1, .int .i64 a1_2] 27 (0, 0)) (by (with_reducible repeat (first|refine blk_drewN ?_ _|refine blk_drew ?_|refine blk_alloc ?_ _));exact BK2.out) hb);have n2_ := Aside0.mk (below_step (by repeat (first|(with_reducible first|exact HB.out|apply below_alloc|apply pw_below_drewN|apply below_drew1|refine below_set ?_ GE1.out|refine below_set ?_ GE2.out)|exact HB.out)) hb);have n3_ := Aside0.mk (hbox);have n4_ := Aside0.mk ((by rw [hg];exact (below_size (by repeat (first|(with_reducible first|exact HB.out|apply below_alloc|apply pw_below_drewN|apply below_drew1|refine below_set ?_ GE1.out|refine below_set ?_ GE2.out)|exact HB.out))) : w.heap.size ≤ gb3));have n5_ := Aside0.mk ((by rw [hg];exact (below_size (by repeat (first|(with_reducible first|exact HB.out|apply below_alloc|apply pw_below_drewN|apply below_drew1|refine below_set ?_ GE1.out|refine below_set ?_ GE2.out)|exact HB.out))) : w.heap.size ≤ gb3));have n6_ := Aside0.mk ((by rw [hg];exact Nat.ne_of_lt (blk_lt (g := gb1) (o := .cells #[.int .i64 a0_0, .int .i64 a0_1, .int .i64 a0_2] 27 (0, 0)) (by (with_reducible repeat (first|refine blk_drewN ?_ _|refine blk_drew ?_|refine blk_alloc ?_ _));exact BK1.out)) : gb1 ≠ gb3));have n7_ := Aside0.mk ((by rw [hg];exact Nat.ne_of_gt (blk_lt (g := gb1) (o := .cells #[.int .i64 a0_0, .int .i64 a0_1, .int .i64 a0_2] 27 (0, 0)) (by (with_reducible repeat (first|refine blk_drewN ?_ _|refine blk_drew ?_|refine blk_alloc ?_ _));exact BK1.out)) : gb3 ≠ gb1));have n8_ := Aside0.mk ((by rw [hg];exact Nat.ne_of_lt (blk_lt (g := gb2) (o := .cells #[.int .i64 a1_0, .int .i64 a1_1, .int .i64 a1_2] 27 (0, 0)) (by (with_reducible repeat (first|refine blk_drewN ?_ _|refine blk_drew ?_|refine blk_alloc ?_ _));exact BK2.out)) : gb2 ≠ gb3));have n9_ := Aside0.mk ((by rw [hg];exact Nat.ne_of_gt (blk_lt (g := gb2) (o := .cells #[.int .i64 a1_0, .int .i64 a1_1, .int .i64 a1_2] 27 (0, 0)) (by (with_reducible repeat (first|refine blk_drewN ?_ _|refine blk_drew ?_|refine blk_alloc ?_ _));exact BK2.out)) : gb3 ≠ gb2));clear BK1;clear BK2;clear HB;have BK1 := n0_;have BK2 := n1_;have HB := n2_;have BK3 := n3_;have GW3 := n4_;have GE3 := n5_;have NB1_3 := n6_;have NB3_1 := n7_;have NB2_3 := n8_;have NB3_2 := n9_;clear n0_ n1_ n2_ n3_ n4_ n5_ n6_ n7_ n8_ n9_;clear hb hbox hg;have hnb6 := NB1_2.out;have hnc6 := NB2_1.out;have hnb7 := NB1_3.out;have hnc7 := NB3_1.out;have hcz8_0 : w5.cell? ⟨gb1, 0, none⟩ = some (.int .i64 a0_0) := (blk_cell BK1.out 0).trans rfl;have hcz8_1 : w5.cell? ⟨gb1, 1, none⟩ = some (.int .i64 a0_1) := (blk_cell BK1.out 1).trans rfl;have hcz8_2 : w5.cell? ⟨gb1, 2, none⟩ = some (.int .i64 a0_2) := (blk_cell BK1.out 2).trans rfl;have hfz8_0 := blk_frozen BK1.out 0;have hfz8_1 := blk_frozen BK1.out 1;have hfz8_2 := blk_frozen BK1.out 2;have hnb9 := NB2_3.out;have hnc9 := NB3_2.out;have hcz10_0 : w5.cell? ⟨gb2, 0, none⟩ = some (.int .i64 a1_0) := (blk_cell BK2.out 0).trans rfl;have hcz10_1 : w5.cell? ⟨gb2, 1, none⟩ = some (.int .i64 a1_1) := (blk_cell BK2.out 1).trans rfl;have hcz10_2 : w5.cell? ⟨gb2, 2, none⟩ = some (.int .i64 a1_2) := (blk_cell BK2.out 2).trans rfl;have hfz10_0 := blk_frozen BK2.out 0;have hfz10_1 := blk_frozen BK2.out 1;have hfz10_2 := blk_frozen BK2.out 2;have hcz11_0 : w5.cell? ⟨gb3, 0, none⟩ = some (.int .i64 0) := (blk_cell BK3.out 0).trans rfl;have hcz11_1 : w5.cell? ⟨gb3, 1, none⟩ = some (.int .i64 0) := (blk_cell BK3.out 1).trans rfl;have hcz11_2 : w5.cell? ⟨gb3, 2, none⟩ = some (.int .i64 0) := (blk_cell BK3.out 2).trans rfl;have hfz11_0 := blk_frozen BK3.out 0;have hfz11_1 := blk_frozen BK3.out 1;have hfz11_2 := blk_frozen BK3.out 2))
 refine bodyPost_ret (results_cell_row rfl _ _ gb3 27 #[.int .i64 (wrap64 (a0_0 + a1_0)), .int .i64 (wrap64 (a0_1 + a1_1)), .int .i64 (wrap64 (a0_2 + a1_2))] (0, 0) _ rfl (by (with_reducible repeat (first|refine blk_drewN ?_ _|refine blk_drew ?_|refine blk_alloc ?_ _));refine blk_put (cs := #[.int .i64 (wrap64 (a0_0 + a1_0)), .int .i64 (wrap64 (a0_1 + a1_1)), .int .i64 0]) ?_ 2 _ rfl;(with_reducible repeat (first|refine blk_drewN ?_ _|refine blk_drew ?_|refine blk_alloc ?_ _));refine blk_put (cs := #[.int .i64 (wrap64 (a0_0 + a1_0)), .int .i64 0, .int .i64 0]) ?_ 1 _ rfl;(with_reducible repeat (first|refine blk_drewN ?_ _|refine blk_drew ?_|refine blk_alloc ?_ _));refine blk_put (cs := #[.int .i64 0, .int .i64 0, .int .i64 0]) ?_ 0 _ rfl;(with_reducible repeat (first|refine blk_drewN ?_ _|refine blk_drew ?_|refine blk_alloc ?_ _));exact BK3.out) Try.underlying27 rfl (by kernel_rfl)) rfl ?_
 exact ⟨by first|rfl|(simp [errW_none, errW_some] <;> rfl)|(simp [*, errW_none, errW_some] <;> rfl), by repeat (first|(with_reducible first|exact HB.out|apply below_alloc|apply pw_below_drewN|apply below_drew1|refine below_set ?_ GE1.out|refine below_set ?_ GE2.out|refine below_set ?_ GE3.out)|exact HB.out)⟩
end Go.Proofs.Ytcgefpklljclgaa.Print

namespace Go.Proofs.Ytcgefpklljclgaa.Print
open Go.RowKit Go.Proofs.YtcgefpklljclgaaW.PrintWords Go.Proofs.YtcgefpklljclgaaW.PrintLast Go.Proofs.YtcgefpklljclgaaW.PrintMore
attribute [local go_sem] max2_int min2_int max_two min_two max_three min_three max_four min_four   -- for this text's walks alone
set_option linter.unusedVariables false
set_option linter.unusedSimpArgs false
/-! ### r10_unit: function 123 -/
def r10_unit.f (a0 : Int) : Option (Bool) := if a0 ≥ 0 then (some (decide (a0 ≤ 1099511627776))) else (some false)
set_option maxHeartbeats 8000000 in
set_option maxRecDepth 100000 in
theorem r10_unit.calls (a0 : Int) (r : Bool) (w : World) (h : r10_unit.f a0 = some r) :
  Calls Try.prog 123 #[.int .i64 a0] w fun e w' => e = .returned (.bool r) ∧ Drawn0 w w' := by
 have H : (if a0 ≥ 0 then (some (decide (a0 ≤ 1099511627776))) else (some false)) = some r := h
 clear h
 by_cases c2 : a0 ≥ 0
 ·rw [if_pos c2] at H
  have c2b0 : decide (0 ≤ a0) = true := decide_eq_true c2
  clear c2
  obtain rfl := Option.some.inj H
  go_enter Try.func123, Try.ntmps123
  go_wp2
  go_ret
  exact ⟨by first | rfl | (simp; done) | (simp [*]; done), by repeat (first | exact Drawn0.refl _ | apply Drawn0.step)⟩
 ·rw [if_neg c2] at H
  have c2b0 : decide (0 ≤ a0) = false := decide_eq_false c2
  clear c2
  obtain rfl := Option.some.inj H
  go_enter Try.func123, Try.ntmps123
  go_wp2
  go_ret
  exact ⟨by first | rfl | (simp; done) | (simp [*]; done), by repeat (first | exact Drawn0.refl _ | apply Drawn0.step)⟩
end Go.Proofs.Ytcgefpklljclgaa.Print

namespace Go.Proofs.Ytcgefpklljclgaa.Print
open Go.RowKit Go.Proofs.YtcgefpklljclgaaW.PrintWords Go.Proofs.YtcgefpklljclgaaW.PrintLast Go.Proofs.YtcgefpklljclgaaW.PrintMore
attribute [local go_sem] max2_int min2_int max_two min_two max_three min_three max_four min_four   -- for this text's walks alone
set_option linter.unusedVariables false
set_option linter.unusedSimpArgs false
/-! ### r10_MayVec: function 65 -/
def r10_MayVec.f (a0_0 : Int) (a0_1 : Int) (a0_2 : Int) : Option (Bool) := (r10_unit.f a0_0).bind fun t2 => (if t2 = true then ((r10_unit.f a0_1).bind fun t3 => (if t3 = true then ((r10_unit.f a0_2).bind fun t4 => (some t4)) else (some false))) else (some false))
set_option maxHeartbeats 8000000 in
set_option maxRecDepth 100000 in
theorem r10_MayVec.calls (a0_0 : Int) (a0_1 : Int) (a0_2 : Int) (r : Bool) (w : World) (h : r10_MayVec.f a0_0 a0_1 a0_2 = some r) :
  Calls Try.prog 65 #[.agg #[.int .i64 a0_0, .int .i64 a0_1, .int .i64 a0_2]] w fun e w' => e = .returned (.bool r) ∧ Below w.heap.size w w' := by
 have hu27 := Try.underlying27
 have HB := Aside0.mk (Below.refl w.heap.size w)
 have H : ((r10_unit.f a0_0).bind fun t2 => (if t2 = true then ((r10_unit.f a0_1).bind fun t3 => (if t3 = true then ((r10_unit.f a0_2).bind fun t4 => (some t4)) else (some false))) else (some false))) = some r := h
 clear h
 replace H := Option.bind_eq_some_iff.mp H
 obtain ⟨t2, A20, H⟩ := H
 replace H : (if t2 = true then ((r10_unit.f a0_1).bind fun t3 => (if t3 = true then ((r10_unit.f a0_2).bind fun t4 => (some t4)) else (some false))) else (some false)) = some r := H
 have A2 := Aside0.mk A20
 clear A20
 by_cases c3 : t2 = true
 ·subst c3
  have H1 : ((r10_unit.f a0_1).bind fun t3 => (if t3 = true then ((r10_unit.f a0_2).bind fun t4 => (some t4)) else (some false))) = some r := by rw [if_pos rfl] at H; exact H
  clear H
  have H := H1
  clear H1
  replace H := Option.bind_eq_some_iff.mp H
  obtain ⟨t3, A40, H⟩ := H
  replace H : (if t3 = true then ((r10_unit.f a0_2).bind fun t4 => (some t4)) else (some false)) = some r := H
  have A4 := Aside0.mk A40
  clear A40
  by_cases c5 : t3 = true
  ·subst c5
   have H1 : ((r10_unit.f a0_2).bind fun t4 => (some t4)) = some r := by rw [if_pos rfl] at H; exact H
   clear H
   have H := H1
   clear H1
   replace H := Option.bind_eq_some_iff.mp H
   obtain ⟨t4, A60, H⟩ := H
   replace H : (some t4) = some r := H
   have A6 := Aside0.mk A60
   clear A60
   obtain rfl := Option.some.inj H
   go_enter Try.func65, Try.ntmps65
   go_wp2_with (first|((with_reducible refine gate_dst (N := 1) rfl ?_);refine box_event ?hg (N := 1) ?hd (cs := #[.int .i64 a0_0, .int .i64 a0_1, .int .i64 a0_2]) (t := 27) ?hr ?_;(case hd => rfl);(case hg => rfl);(case hr => first|(go_simp;done)|(go_simp;rfl));intro gb1 hg w7 hbox hb;have n0_ := Aside0.mk (below_step (by repeat (first|(with_reducible first|exact HB.out|apply below_alloc|apply pw_below_drewN|apply below_drew1)|exact HB.out)) hb);have n1_ := Aside0.mk (hbox);have n2_ := Aside0.mk ((by rw [hg];exact (below_size (by repeat (first|(with_reducible first|exact HB.out|apply below_alloc|apply pw_below_drewN|apply below_drew1)|exact HB.out))) : w.heap.size ≤ gb1));have n3_ := Aside0.mk ((by rw [hg];exact (below_size (by repeat (first|(with_reducible first|exact HB.out|apply below_alloc|apply pw_below_drewN|apply below_drew1)|exact HB.out))) : w.heap.size ≤ gb1));clear HB;have HB := n0_;have BK1 := n1_;have GW1 := n2_;have GE1 := n3_;clear n0_ n1_ n2_ n3_;clear hb hbox hg;have hcz8_0 : w7.cell? ⟨gb1, 0, none⟩ = some (.int .i64 a0_0) := (blk_cell BK1.out 0).trans rfl;have hcz8_1 : w7.cell? ⟨gb1, 1, none⟩ = some (.int .i64 a0_1) := (blk_cell BK1.out 1).trans rfl;have hcz8_2 : w7.cell? ⟨gb1, 2, none⟩ = some (.int .i64 a0_2) := (blk_cell BK1.out 2).trans rfl;have hfz8_0 := blk_frozen BK1.out 0;have hfz8_1 := blk_frozen BK1.out 1;have hfz8_2 := blk_frozen BK1.out 2)|((with_reducible refine gate_callee (f := 123) rfl ?_);refine goesL_ (some 5) rfl rfl Try.func123 (by kernel_rfl) rfl #[.int .i64 a0_0] rfl (by (try simp only [List.map_toArray, List.map_cons, List.map_nil]);first|done|rfl|(simp only [List.length_drop, List.length_take];rfl)) ?_;(with_reducible refine (r10_unit.calls a0_0 true _ A2.out).mono ?_);rintro e w' ⟨rfl, ⟨nd, rfl⟩⟩;refine ⟨_, rfl, ?_⟩)|(go_at_call 123;(with_reducible refine (r10_unit.calls a0_1 true _ A4.out).mono ?_);rintro e w' ⟨rfl, ⟨nd, rfl⟩⟩)|(go_at_call 123;(with_reducible refine (r10_unit.calls a0_2 t4 _ A6.out).mono ?_);rintro e w' ⟨rfl, ⟨nd, rfl⟩⟩))
   go_ret
   exact ⟨by first|rfl|(simp [errW_none, errW_some] <;> rfl)|(simp [*, errW_none, errW_some] <;> rfl), by repeat (first|(with_reducible first|exact HB.out|apply below_alloc|apply pw_below_drewN|apply below_drew1|refine below_set ?_ GE1.out)|exact HB.out)⟩
  ·replace c5 := Bool.eq_false_iff.mpr c5
   subst c5
   have H1 : (some false) = some r := by rw [if_neg (show ¬ (false = true) by decide)] at H; exact H
   clear H
   have H := H1
   clear H1
   obtain rfl := Option.some.inj H
   go_enter Try.func65, Try.ntmps65
   go_wp2_with (first|((with_reducible refine gate_dst (N := 1) rfl ?_);refine box_event ?hg (N := 1) ?hd (cs := #[.int .i64 a0_0, .int .i64 a0_1, .int .i64 a0_2]) (t := 27) ?hr ?_;(case hd => rfl);(case hg => rfl);(case hr => first|(go_simp;done)|(go_simp;rfl));intro gb1 hg w9 hbox hb;have n0_ := Aside0.mk (below_step (by repeat (first|(with_reducible first|exact HB.out|apply below_alloc|apply pw_below_drewN|apply below_drew1)|exact HB.out)) hb);have n1_ := Aside0.mk (hbox);have n2_ := Aside0.mk ((by rw [hg];exact (below_size (by repeat (first|(with_reducible first|exact HB.out|apply below_alloc|apply pw_below_drewN|apply below_drew1)|exact HB.out))) : w.heap.size ≤ gb1));have n3_ := Aside0.mk ((by rw [hg];exact (below_size (by repeat (first|(with_reducible first|exact HB.out|apply below_alloc|apply pw_below_drewN|apply below_drew1)|exact HB.out))) : w.heap.size ≤ gb1));clear HB;have HB := n0_;have BK1 := n1_;have GW1 := n2_;have GE1 := n3_;clear n0_ n1_ n2_ n3_;clear hb hbox hg;have hcz10_0 : w9.cell? ⟨gb1, 0, none⟩ = some (.int .i64 a0_0) := (blk_cell BK1.out 0).trans rfl;have hcz10_1 : w9.cell? ⟨gb1, 1, none⟩ = some (.int .i64 a0_1) := (blk_cell BK1.out 1).trans rfl;have hcz10_2 : w9.cell? ⟨gb1, 2, none⟩ = some (.int .i64 a0_2) := (blk_cell BK1.out 2).trans rfl;have hfz10_0 := blk_frozen BK1.out 0;have hfz10_1 := blk_frozen BK1.out 1;have hfz10_2 := blk_frozen BK1.out 2)|((with_reducible refine gate_callee (f := 123) rfl ?_);refine goesL_ (some 5) rfl rfl Try.func123 (by kernel_rfl) rfl #[.int .i64 a0_0] rfl (by (try simp only [List.map_toArray, List.map_cons, List.map_nil]);first|done|rfl|(simp only [List.length_drop, List.length_take];rfl)) ?_;(with_reducible refine (r10_unit.calls a0_0 true _ A2.out).mono ?_);rintro e w' ⟨rfl, ⟨nd, rfl⟩⟩;refine ⟨_, rfl, ?_⟩)|(go_at_call 123;(with_reducible refine (r10_unit.calls a0_1 false _ A4.out).mono ?_);rintro e w' ⟨rfl, ⟨nd, rfl⟩⟩))
   go_ret
   exact ⟨by first|rfl|(simp [errW_none, errW_some] <;> rfl)|(simp [*, errW_none, errW_some] <;> rfl), by repeat (first|(with_reducible first|exact HB.out|apply below_alloc|apply pw_below_drewN|apply below_drew1|refine below_set ?_ GE1.out)|exact HB.out)⟩
 ·replace c3 := Bool.eq_false_iff.mpr c3
  subst c3
  have H1 : (some false) = some r := by rw [if_neg (show ¬ (false = true) by decide)] at H; exact H
  clear H
  have H := H1
  clear H1
  obtain rfl := Option.some.inj H
  go_enter Try.func65, Try.ntmps65
  go_wp2_with (first|((with_reducible refine gate_dst (N := 1) rfl ?_);refine box_event ?hg (N := 1) ?hd (cs := #[.int .i64 a0_0, .int .i64 a0_1, .int .i64 a0_2]) (t := 27) ?hr ?_;(case hd => rfl);(case hg => rfl);(case hr => first|(go_simp;done)|(go_simp;rfl));intro gb1 hg w11 hbox hb;have n0_ := Aside0.mk (below_step (by repeat (first|(with_reducible first|exact HB.out|apply below_alloc|apply pw_below_drewN|apply below_drew1)|exact HB.out)) hb);have n1_ := Aside0.mk (hbox);have n2_ := Aside0.mk ((by rw [hg];exact (below_size (by repeat (first|(with_reducible first|exact HB.out|apply below_alloc|apply pw_below_drewN|apply below_drew1)|exact HB.out))) : w.heap.size ≤ gb1));have n3_ := Aside0.mk ((by rw [hg];exact (below_size (by repeat (first|(with_reducible first|exact HB.out|apply below_alloc|apply pw_below_drewN|apply below_drew1)|exact HB.out))) : w.heap.size ≤ gb1));clear HB;have HB := n0_;have BK1 := n1_;have GW1 := n2_;have GE1 := n3_;clear n0_ n1_ n2_ n3_;clear hb hbox hg;have hcz12_0 : w11.cell? ⟨gb1, 0, none⟩ = some (.int .i64 a0_0) := (blk_cell BK1.out 0).trans rfl;have hcz12_1 : w11.cell? ⟨gb1, 1, none⟩ = some (.int .i64 a0_1) := (blk_cell BK1.out 1).trans rfl;have hcz12_2 : w11.cell? ⟨gb1, 2, none⟩ = some (.int .i64 a0_2) := (blk_cell BK1.out 2).trans rfl;have hfz12_0 := blk_frozen BK1.out 0;have hfz12_1 := blk_frozen BK1.out 1;have hfz12_2 := blk_frozen BK1.out 2)|((with_reducible refine gate_callee (f := 123) rfl ?_);refine goesL_ (some 5) rfl rfl Try.func123 (by kernel_rfl) rfl #[.int .i64 a0_0] rfl (by (try simp only [List.map_toArray, List.map_cons, List.map_nil]);first|done|rfl|(simp only [List.length_drop, List.length_take];rfl)) ?_;(with_reducible refine (r10_unit.calls a0_0 false _ A2.out).mono ?_);rintro e w' ⟨rfl, ⟨nd, rfl⟩⟩;refine ⟨_, rfl, ?_⟩))
  go_ret
  exact ⟨by first|rfl|(simp [errW_none, errW_some] <;> rfl)|(simp [*, errW_none, errW_some] <;> rfl), by repeat (first|(with_reducible first|exact HB.out|apply below_alloc|apply pw_below_drewN|apply below_drew1|refine below_set ?_ GE1.out)|exact HB.out)⟩
end Go.Proofs.Ytcgefpklljclgaa.Print

namespace Go.Proofs.Ytcgefpklljclgaa.Print
open Go.RowKit Go.Proofs.YtcgefpklljclgaaW.PrintWords Go.Proofs.YtcgefpklljclgaaW.PrintLast Go.Proofs.YtcgefpklljclgaaW.PrintMore
attribute [local go_sem] max2_int min2_int max_two min_two max_three min_three max_four min_four   -- for this text's walks alone
set_option linter.unusedVariables false
set_option linter.unusedSimpArgs false
/-! ### r10_MayName: function 105 -/
def r10_MayName.f (a0 : ByteArray) : Option (Bool) := if a0.toList = ([] : List UInt8) then (some false) else (some (decide ((a0.size : Int) ≤ 24)))
set_option maxHeartbeats 8000000 in
set_option maxRecDepth 100000 in
theorem r10_MayName.calls (a0 : ByteArray) (r : Bool) (w : World) (h : r10_MayName.f a0 = some r) :
  Calls Try.prog 105 #[.string a0] w fun e w' => e = .returned (.bool r) ∧ Drawn0 w w' := by
 have H : (if a0.toList = ([] : List UInt8) then (some false) else (some (decide ((a0.size : Int) ≤ 24)))) = some r := h
 clear h
 by_cases c2 : a0.toList = ([] : List UInt8)
 ·rw [if_pos c2] at H
  have c2b0 : (a0.toList == ([] : List UInt8)) = true := beq_iff_eq.mpr c2
  have c2b1 : (a0.toList != ([] : List UInt8)) = false := bne_eq_false_iff_eq.mpr c2
  clear c2
  obtain rfl := Option.some.inj H
  go_enter Try.func105, Try.ntmps105
  go_wp2
  go_ret
  exact ⟨by first | rfl | (simp; done) | (simp [*]; done), by repeat (first | exact Drawn0.refl _ | apply Drawn0.step)⟩
 ·rw [if_neg c2] at H
  have c2b0 : (a0.toList == ([] : List UInt8)) = false := beq_eq_false_iff_ne.mpr c2
  have c2b1 : (a0.toList != ([] : List UInt8)) = true := bne_iff_ne.mpr c2
  obtain rfl := Option.some.inj H
  go_enter Try.func105, Try.ntmps105
  go_wp2
  go_ret
  exact ⟨by first | rfl | (simp; done) | (simp [*]; done), by repeat (first | exact Drawn0.refl _ | apply Drawn0.step)⟩
end Go.Proofs.Ytcgefpklljclgaa.Print

namespace Go.Proofs.Ytcgefpklljclgaa.Print
open Go.RowKit Go.Proofs.YtcgefpklljclgaaW.PrintWords Go.Proofs.YtcgefpklljclgaaW.PrintLast Go.Proofs.YtcgefpklljclgaaW.PrintMore
attribute [local go_sem] max2_int min2_int max_two min_two max_three min_three max_four min_four   -- for this text's walks alone
set_option linter.unusedVariables false
set_option linter.unusedSimpArgs false
/-! ### r10_Up: function 106 -/
def r10_Up.l0 : Nat → List (S31) → List ByteArray → Int → Option (List ByteArray)
 | 0, _, _, _ => none
 | k + 1, x0, x5, x6 => if x6 ≥ 0 then (if (x5.length : Int) ≤ (x0.length : Int) then (if 0 ≤ x6 then (if x6 < (x0.length : Int) then (if x5.length < 8796093022208 then ((r10_Find.f k x0 ((rd_T31 x0 x6).f1)).bind fun t7 => (r10_Up.l0 k x0 (x5 ++ [(rd_T31 x0 x6).f0]) t7)) else (none)) else (none)) else (none)) else (some x5)) else (some x5)
def r10_Up.f (k : Nat) (l0 : List (S31)) (a1 : ByteArray) : Option (List ByteArray) := (r10_Find.f k l0 a1).bind fun t1 => (r10_Up.l0 k l0 ([] : List ByteArray) t1)
theorem r10_Up.mono_l : ∀ k, (∀ y0 y1 y2, LeO (r10_Up.l0 k y0 y1 y2) (r10_Up.l0 (k + 1) y0 y1 y2))
 | 0 => fun _ _ _ r h => by simp [r10_Up.l0] at h
 | k + 1 => by
  have ih0 := r10_Up.mono_l k
  ·intro y0 y1 y2
   unfold r10_Up.l0
   repeat' first
   | (with_reducible exact ih0 _ _ _)
   | (with_reducible exact r10_Find.mono _ _ _)
   | (with_reducible exact LeO.refl _)
   | (with_reducible exact LeO.none _)
   | (with_reducible refine LeO.ite ?_ ?_)
   | (with_reducible refine LeO.bind ?_ (fun _ => ?_))
   | exact ih0 _ _ _
   | exact r10_Find.mono _ _ _
   | exact LeO.none _
   | refine LeO.ite ?_ ?_
   | refine LeO.bind ?_ (fun _ => ?_)
theorem r10_Up.mono : ∀ a0 a1 k, LeO (r10_Up.f k a0 a1) (r10_Up.f (k + 1) a0 a1) := by
 intro a0 a1 k
 have ih0 := r10_Up.mono_l k
 unfold r10_Up.f
 repeat' first
   | (with_reducible exact ih0 _ _ _)
   | (with_reducible exact r10_Find.mono _ _ _)
   | (with_reducible exact LeO.refl _)
   | (with_reducible exact LeO.none _)
   | (with_reducible refine LeO.ite ?_ ?_)
   | (with_reducible refine LeO.bind ?_ (fun _ => ?_))
   | exact ih0 _ _ _
   | exact r10_Find.mono _ _ _
   | exact LeO.none _
   | refine LeO.ite ?_ ?_
   | refine LeO.bind ?_ (fun _ => ?_)
set_option maxHeartbeats 8000000 in
set_option maxRecDepth 100000 in
theorem r10_Up.calls (k : Nat) (A0 : Option Addr) (c0 : Nat) (l0 : List (S31)) (a1 : ByteArray) (r : List ByteArray) (w : World) (hr0 : Kd.C k31 w A0 l0.length l0) (hc0 : l0.length ≤ c0) (h : r10_Up.f k l0 a1 = some r) :
  Calls Try.prog 106 #[.slice A0 l0.length c0, .string a1] w fun e w' => ∃ v0_ : Value, e = .returned (v0_) ∧ Kd.R Kd.string 9 w' w.heap.size (fun _ => True) v0_ r ∧ Below w.heap.size w w' := by
 have HR0 := Aside0.mk hr0
 have HC0 := Aside0.mk hc0
 clear hr0 hc0
 have HB := Aside0.mk (Below.refl w.heap.size w)
 have H : ((r10_Find.f k l0 a1).bind fun t1 => (r10_Up.l0 k l0 ([] : List ByteArray) t1)) = some r := h
 clear h
 replace H := Option.bind_eq_some_iff.mp H
 obtain ⟨t1, A30, H⟩ := H
 replace H : (r10_Up.l0 k l0 ([] : List ByteArray) t1) = some r := H
 have A3 := Aside0.mk A30
 clear A30
 have H' := Aside0.mk H
 clear H
 go_enter Try.func106, Try.ntmps106
 go_wp2_with (first|((with_reducible refine gate_callee (f := 50) rfl ?_);refine goesL_ (some 9) rfl rfl Try.func50 (by kernel_rfl) rfl #[.slice A0 l0.length c0, .string a1] rfl (by (try simp only [List.map_toArray, List.map_cons, List.map_nil]);first|done|rfl|(simp only [List.length_drop, List.length_take];rfl)) ?_;(with_reducible refine (r10_Find.calls k _ _ l0 a1 t1 _ ?side1 ?side2 A3.out).mono ?_);(case side1 => repeat (first|exact HR0.out|(with_reducible refine Kd.C_alloc ?_ _)|(with_reducible refine Kd.C_drewN ?_ _)|(with_reducible refine Kd.C_drew ?_)));(case side2 => exact HC0.out);rintro e w' ⟨rfl, ⟨nd, rfl⟩⟩;refine ⟨_, rfl, ?_⟩))
 go_loopg [5, 6] k (fun kq v5 v6 w' => ∃ (x5_1 : List ByteArray) (x6_1 : Int), v6 = .int .i64 x6_1 ∧ Aside0 (r10_Up.l0 kq l0 x5_1 x6_1 = some r) ∧ Aside0 (kq ≤ k) ∧ Aside0 (Kd.R Kd.string 9 w' w.heap.size (fun _ => True) v5 x5_1) ∧ Aside0 (Below w.heap.size w w'))
 case atStart => exact ⟨(([] : List ByteArray)), (t1), (by first|rfl|(simp;done)|(simp [*];done)), H', ⟨Nat.le_refl _⟩, ⟨by first|exact Kd.R_nil _ _ _ _ _|exact Kd.N_nil _ _ _ _ _|exact Kd.V_nil _ _ _ _ _|exact Kd.Q_nil _ _ _ _ _|exact Kd.S_nil _ _ _ _ _⟩, ⟨by repeat (first|(with_reducible first|exact HB.out|apply below_alloc|apply pw_below_drewN|apply below_drew1)|exact HB.out)⟩⟩
 case round =>
  clear H'
  try clear c1
  try clear p2
  obtain ⟨x5_1, x6_1, rfl, HA, HK1, HO_5, HB⟩ := hrel
  cases gk with
  | zero => exact absurd HA.out (by simp [r10_Up.l0])
  | succ k1 =>
   have H := HA.out
   clear HA
   simp only [r10_Up.l0] at H
   by_cases c4 : x6_1 ≥ 0
   ·rw [if_pos c4] at H
    have c4b0 : decide (0 ≤ x6_1) = true := decide_eq_true c4
    clear c4
    by_cases c5 : (x5_1.length : Int) ≤ (l0.length : Int)
    ·rw [if_pos c5] at H
     have c5b0 : decide ((x5_1.length : Int) ≤ (l0.length : Int)) = true := decide_eq_true c5
     have c5b1 : decide (x5_1.length ≤ l0.length) = true := decide_eq_true (Int.ofNat_le.mp c5)
     clear c5
     by_cases c6 : 0 ≤ x6_1
     ·rw [if_pos c6] at H
      have c6b0 : decide (0 ≤ x6_1) = true := decide_eq_true c6
      clear c6
      by_cases c7 : x6_1 < (l0.length : Int)
      ·rw [if_pos c7] at H
       have c7b0 : decide (x6_1 < (l0.length : Int)) = true := decide_eq_true c7
       clear c7
       by_cases c8 : x5_1.length < 8796093022208
       ·rw [if_pos c8] at H
        have LMc8 := Aside0.mk c8
        clear c8
        obtain ⟨y3, hy3⟩ : ∃ y_ : List ByteArray, y_ = (x5_1 ++ [(rd_T31 l0 x6_1).f0]) := ⟨_, rfl⟩
        replace H : ((r10_Find.f k1 l0 ((rd_T31 l0 x6_1).f1)).bind fun t7 => (r10_Up.l0 k1 l0 y3 t7)) = some r := by first|(rw [hy3];with_reducible exact H)|(have H2_ := (Option.bind_some _ _).symm.trans H;rw [hy3];with_reducible exact H2_)|(have H2_ := (Option.bind_some _ _).symm.trans H;with_reducible exact H2_)|with_reducible exact H|(rw [hy3];exact H)|exact H
        have Ny3 := Aside0.mk hy3
        clear hy3
        replace H := Option.bind_eq_some_iff.mp H
        obtain ⟨t7, A90, H⟩ := H
        replace H : (r10_Up.l0 k1 l0 y3 t7) = some r := H
        have A9 := Aside0.mk A90
        clear A90
        have H' := Aside0.mk H
        clear H
        obtain ⟨Ao10, co10, eo10⟩ := Kd.R_slice HO_5.out
        subst eo10
        have p2 : 0 ≤ (x6_1 : Int) := of_decide_eq_true (by first|(with_reducible assumption)|assumption)
        have q2 : x6_1 < (l0.length : Int) := of_decide_eq_true (by first|(with_reducible assumption)|assumption)
        obtain ⟨ad2, e2, hx2_0, hx2_1, hx2_2, hx2_3, hx2_4, hx2_5, hx2_6, hx2_7, hx2_8, hx2_9, hx2_10, hx2_11⟩ := at_T31 HR0.out x6_1 p2 q2
        cases e2
        replace hx2_0 := (HB.out.cell (World.block_lt_of_cell? w _ hx2_0)).trans hx2_0
        replace hx2_1 := (HB.out.cell (World.block_lt_of_cell? w _ hx2_1)).trans hx2_1
        replace hx2_2 := (HB.out.cell (World.block_lt_of_cell? w _ hx2_2)).trans hx2_2
        replace hx2_3 := (HB.out.cell (World.block_lt_of_cell? w _ hx2_3)).trans hx2_3
        replace hx2_4 := (HB.out.cell (World.block_lt_of_cell? w _ hx2_4)).trans hx2_4
        replace hx2_5 := (HB.out.cell (World.block_lt_of_cell? w _ hx2_5)).trans hx2_5
        replace hx2_6 := (HB.out.cell (World.block_lt_of_cell? w _ hx2_6)).trans hx2_6
        replace hx2_7 := (HB.out.cell (World.block_lt_of_cell? w _ hx2_7)).trans hx2_7
        replace hx2_8 := (HB.out.cell (World.block_lt_of_cell? w _ hx2_8)).trans hx2_8
        replace hx2_9 := (HB.out.cell (World.block_lt_of_cell? w _ hx2_9)).trans hx2_9
        replace hx2_10 := (HB.out.cell (World.block_lt_of_cell? w _ hx2_10)).trans hx2_10
        replace hx2_11 := (HB.out.cell (World.block_lt_of_cell? w _ hx2_11)).trans hx2_11
        replace p2 := eq_true p2
        replace q2 := eq_true q2
        go_wp2_with (first|((with_reducible refine gate_builtin (b := .append) (xs := #[.tmp 26, .tmp 32]) rfl ?_);(try (refine gate_guard (by rfl) ?_;dsimp only));at_builtin;refine Kd.R_append Kd.string (w0 := w) w.heap.size rfl (.tmp 26) (.tmp 32) 74 9 (.string ⟨#[]⟩) 16 rfl Try.underlying74 info9 rfl (by decide) (by omega) (.slice Ao10 x5_1.length co10) x5_1 ((rd_T31 l0 x6_1).f0) [.string ((rd_T31 l0 x6_1).f0)] (fun _ => True) (fun _ => False) rfl rfl ?aP (fun _ hk => hk.elim) ?aF ?aO ?aB ?aS ?aL ?_;(case aP => exact rfl);(case aB => exact (by repeat (first|(with_reducible first|exact HB.out|apply below_alloc|apply pw_below_drewN|apply below_drew1)|exact HB.out)));(case aF => exact (fun _ _ => trivial));(case aO => exact (by (with_reducible repeat (first|apply Kd.R_alloc|apply Kd.R_drewN|apply Kd.R_drew));exact HO_5.out));(case aS => exact (below_size (by repeat (first|(with_reducible first|exact HB.out|apply below_alloc|apply pw_below_drewN|apply below_drew1)|exact HB.out))));(case aL => have := LMc8.out;omega);intro v4 w11 ho hb hg hat;rw [← Ny3.out] at ho;have n0_ := Aside0.mk (hb);have n1_ := Aside0.mk (ho);clear HB;clear HO_5;have HB := n0_;have HO5 := n1_;clear n0_ n1_;clear ho hb hg hat;have p6 : 0 ≤ (x6_1 : Int) := of_decide_eq_true (by first|(with_reducible assumption)|assumption);have q6 : x6_1 < (l0.length : Int) := of_decide_eq_true (by first|(with_reducible assumption)|assumption);obtain ⟨ad6, e6, hx6_0, hx6_1, hx6_2, hx6_3, hx6_4, hx6_5, hx6_6, hx6_7, hx6_8, hx6_9, hx6_10, hx6_11⟩ := at_T31 HR0.out x6_1 p6 q6;obtain rfl : ad2 = ad6 := (by injection e6);replace hx6_0 := (HB.out.cell (World.block_lt_of_cell? w _ hx6_0)).trans hx6_0;replace hx6_1 := (HB.out.cell (World.block_lt_of_cell? w _ hx6_1)).trans hx6_1;replace hx6_2 := (HB.out.cell (World.block_lt_of_cell? w _ hx6_2)).trans hx6_2;replace hx6_3 := (HB.out.cell (World.block_lt_of_cell? w _ hx6_3)).trans hx6_3;replace hx6_4 := (HB.out.cell (World.block_lt_of_cell? w _ hx6_4)).trans hx6_4;replace hx6_5 := (HB.out.cell (World.block_lt_of_cell? w _ hx6_5)).trans hx6_5;replace hx6_6 := (HB.out.cell (World.block_lt_of_cell? w _ hx6_6)).trans hx6_6;replace hx6_7 := (HB.out.cell (World.block_lt_of_cell? w _ hx6_7)).trans hx6_7;replace hx6_8 := (HB.out.cell (World.block_lt_of_cell? w _ hx6_8)).trans hx6_8;replace hx6_9 := (HB.out.cell (World.block_lt_of_cell? w _ hx6_9)).trans hx6_9;replace hx6_10 := (HB.out.cell (World.block_lt_of_cell? w _ hx6_10)).trans hx6_10;replace hx6_11 := (HB.out.cell (World.block_lt_of_cell? w _ hx6_11)).trans hx6_11;replace p6 := eq_true p6;replace q6 := eq_true q6)|((with_reducible refine gate_callee (f := 50) rfl ?_);refine goesL_ (some 25) rfl rfl Try.func50 (by kernel_rfl) rfl #[.slice (some ad2) l0.length c0, .string ((rd_T31 l0 x6_1).f1)] rfl (by (try simp only [List.map_toArray, List.map_cons, List.map_nil]);first|done|rfl|(simp only [List.length_drop, List.length_take];rfl)) ?_;(with_reducible refine (r10_Find.calls k1 _ _ l0 ((rd_T31 l0 x6_1).f1) t7 _ ?side1 ?side2 A9.out).mono ?_);(case side1 => repeat (first|exact (Kd.C_below HR0.out HB.out)|(with_reducible refine Kd.C_alloc ?_ _)|(with_reducible refine Kd.C_drewN ?_ _)|(with_reducible refine Kd.C_drew ?_)));(case side2 => exact HC0.out);rintro e w' ⟨rfl, ⟨nd, rfl⟩⟩;refine ⟨_, rfl, ?_⟩))
        go_roundg k1
        case measure => have := HK1.out; omega
        case rel => exact ⟨(y3), (t7), (by first|rfl|(simp;done)|(simp [*];done)), H', ⟨by have := HK1.out;omega⟩, ⟨by (with_reducible repeat (first|apply Kd.R_alloc|apply Kd.R_drewN|apply Kd.R_drew));exact HO5.out⟩, ⟨by repeat (first|(with_reducible first|exact HB.out|apply below_alloc|apply pw_below_drewN|apply below_drew1)|exact HB.out)⟩⟩
       ·rw [if_neg c8] at H
        exact absurd H (by simp)
      ·rw [if_neg c7] at H
       exact absurd H (by simp)
     ·rw [if_neg c6] at H
      exact absurd H (by simp)
    ·rw [if_neg c5] at H
     have c5b0 : decide ((x5_1.length : Int) ≤ (l0.length : Int)) = false := decide_eq_false c5
     have c5b1 : decide (x5_1.length ≤ l0.length) = false := decide_eq_false (fun h => c5 (Int.ofNat_le.mpr h))
     clear c5
     obtain rfl := Option.some.inj H
     obtain ⟨Ao12, co12, eo12⟩ := Kd.R_slice HO_5.out
     subst eo12
     go_wp2
     go_ret
     exact ⟨_, by first|rfl|(simp [errW_none, errW_some] <;> rfl)|(simp [*, errW_none, errW_some] <;> rfl), by (with_reducible repeat (first|apply Kd.R_alloc|apply Kd.R_drewN|apply Kd.R_drew));exact HO_5.out, by repeat (first|(with_reducible first|exact HB.out|apply below_alloc|apply pw_below_drewN|apply below_drew1)|exact HB.out)⟩
   ·rw [if_neg c4] at H
    have c4b0 : decide (0 ≤ x6_1) = false := decide_eq_false c4
    clear c4
    obtain rfl := Option.some.inj H
    go_wp2
    go_ret
    exact ⟨_, by first|rfl|(simp [errW_none, errW_some] <;> rfl)|(simp [*, errW_none, errW_some] <;> rfl), by (with_reducible repeat (first|apply Kd.R_alloc|apply Kd.R_drewN|apply Kd.R_drew));exact HO_5.out, by repeat (first|(with_reducible first|exact HB.out|apply below_alloc|apply pw_below_drewN|apply below_drew1)|exact HB.out)⟩
end Go.Proofs.Ytcgefpklljclgaa.Print

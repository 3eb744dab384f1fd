/- A part of the proof of RoomAll: the machine's side by the kit's print, contracts and lemmas by this session. -/
import Derived.Test.YtcgefpklljclgaaProg
import Derived.Below
import Derived.Deep.Draws
import Derived.Deep.AppendLies
import Derived.Maps.AppendAt
import Derived.OwnWalk
import Derived.Laws.BytesArg
import Derived.Laws.MakeOwn
import Derived.Laws.OwnMore
import Derived.Deep.OwnRows
import Derived.Tactics
import Derived.Lib.ConvBytes
import Derived.Laws.Slices
import Derived.WalkKit
import Derived.KernelRfl
import Derived.RowKit3
import Derived.Deep.LoopGhost
import Derived.Deep.QuietTactic
import Derived.BigQuiet
import Derived.WideLaws
import Derived.Deep.DeepCutAuto
import Derived.Deep.CutBlock
import Derived.Deep.RegionHeld3
import Derived.Laws.Rows
import Derived.Lib.AppendStr
import Derived.ArgAppend
import Derived.Laws.IdiomCopy
import Derived.OrdersHeld
import Derived.Laws.BitsLemmas
import Derived.RowKit
import Derived.Shelf.Abstract
import Derived.StillTailTactics
import Derived.Test.YtcgefpklljclgaaBRoomAll0
namespace Go.Proofs.Ytcgefpklljclgaa.Print
open Go.RowKit Go.Proofs.YtcgefpklljclgaaW.PrintWords Go.Proofs.YtcgefpklljclgaaW.PrintLast Go.Proofs.YtcgefpklljclgaaW.PrintMore
attribute [local go_sem] max2_int min2_int max_two min_two max_three min_three max_four min_four   -- for this text's walks alone
set_option linter.unusedVariables false
set_option linter.unusedSimpArgs false
def errW : Option Int → Value
  | none => .nilIface
  | some c => .iface 0 (.int .i64 c)
theorem errW_none : errW none = .nilIface := rfl
theorem errW_some (c : Int) : errW (some c) = .iface 0 (.int .i64 c) := rfl
theorem info9 : (Try.prog.info? 9).map (fun i => (i.zero, i.size, i.bytes)) = some (some (.string ⟨#[]⟩), 1, 16) := by kernel_rfl
theorem info27 : (Try.prog.info? 27).map (fun i => (i.zero, i.size, i.bytes)) = some (some (.agg #[(.int .i64 0), (.int .i64 0), (.int .i64 0)]), 3, 24) := by kernel_rfl
theorem info31 : (Try.prog.info? 31).map (fun i => (i.zero, i.size, i.bytes)) = some (some (.agg #[(.string ⟨#[]⟩), (.string ⟨#[]⟩), (.int .i64 0), (.int .i64 0), (.int .i64 0), (.int .i64 0), (.int .i64 0), (.int .i64 0), (.int .i64 0), (.int .i64 0), (.int .i64 0), (.int .i64 0)]), 12, 112) := by kernel_rfl
-- the values' own types
/-! #### struct type 27 -/
structure S27 where
  f0 : Int
  f1 : Int
  f2 : Int
def z27 : S27 := ⟨(0 : Int), (0 : Int), (0 : Int)⟩
def k27 : Kd S27 := Kd.iso (Kd.pair (Kd.int .i64) (Kd.pair (Kd.int .i64) (Kd.int .i64))) (fun x : S27 => (x.f0, x.f1, x.f2))
theorem k27_open {w : World} {x : S27} {cs : List Value} (h : k27.K w x cs) : cs = [.int .i64 x.f0, .int .i64 x.f1, .int .i64 x.f2] := by
  obtain ⟨_, _, rfl, rfl, ⟨_, _, rfl, rfl, rfl⟩⟩ := h
  exact rfl
theorem k27_mk (w : World) (x : S27)  : k27.K w x [.int .i64 x.f0, .int .i64 x.f1, .int .i64 x.f2] := ⟨[.int .i64 x.f0], [.int .i64 x.f1, .int .i64 x.f2], rfl, rfl, ⟨[.int .i64 x.f1], [.int .i64 x.f2], rfl, rfl, rfl⟩⟩
theorem k27_mkM (w : World) (base : Nat) (ok : Nat → Prop) (x : S27)  : k27.M w base ok x [.int .i64 x.f0, .int .i64 x.f1, .int .i64 x.f2] := ⟨[.int .i64 x.f0], [.int .i64 x.f1, .int .i64 x.f2], rfl, rfl, ⟨[.int .i64 x.f1], [.int .i64 x.f2], rfl, rfl, rfl⟩⟩
def rd_T27 (xs : List S27) (i : Int) : S27 := xs.getD i.toNat z27
theorem at_T27 {w : World} {A : Option Addr} {n : Nat} {xs : List S27} (h : Kd.C k27 w A n xs) (i : Int) (h0 : 0 ≤ i) (h1 : i < n) : ∃ ad , A = some ad ∧ w.cell? (ad.add (i.toNat * 3)) = some (.int .i64 (rd_T27 xs i).f0) ∧ w.cell? ⟨(ad.add (i.toNat * 3)).block, (ad.add (i.toNat * 3)).off + 1, none⟩ = some (.int .i64 (rd_T27 xs i).f1) ∧ w.cell? ⟨(ad.add (i.toNat * 3)).block, (ad.add (i.toNat * 3)).off + 2, none⟩ = some (.int .i64 (rd_T27 xs i).f2) := by
  obtain ⟨ad, c, e, _, hK, hc0⟩ := Kd.C_get h z27 i h0 h1
  have hc : ∀ j u, c[j]? = some u → w.cell? (ad.add (i.toNat * 3 + j)) = some u := hc0
  obtain rfl := k27_open hK
  exact ⟨ad, e, hc 0 _ rfl, by rw [← add_field _ _ 1 (by omega)]; exact hc 1 _ rfl, by rw [← add_field _ _ 2 (by omega)]; exact hc 2 _ rfl⟩
/-! #### struct type 31 -/
structure S31 where
  f0 : ByteArray
  f1 : ByteArray
  f2 : S27
  f3 : S27
  f4 : S27
  f5 : Int
def z31 : S31 := ⟨(⟨#[]⟩ : ByteArray), (⟨#[]⟩ : ByteArray), z27, z27, z27, (0 : Int)⟩
def k31 : Kd S31 := Kd.iso (Kd.pair Kd.string (Kd.pair Kd.string (Kd.pair k27 (Kd.pair k27 (Kd.pair k27 (Kd.int .i64)))))) (fun x : S31 => (x.f0, x.f1, x.f2, x.f3, x.f4, x.f5))
theorem k31_open {w : World} {x : S31} {cs : List Value} (h : k31.K w x cs) : cs = [.string x.f0, .string x.f1, .int .i64 x.f2.f0, .int .i64 x.f2.f1, .int .i64 x.f2.f2, .int .i64 x.f3.f0, .int .i64 x.f3.f1, .int .i64 x.f3.f2, .int .i64 x.f4.f0, .int .i64 x.f4.f1, .int .i64 x.f4.f2, .int .i64 x.f5] := by
  obtain ⟨_, _, rfl, rfl, ⟨_, _, rfl, rfl, ⟨_, _, rfl, s2, ⟨_, _, rfl, s5, ⟨_, _, rfl, s8, rfl⟩⟩⟩⟩⟩ := h
  obtain rfl := k27_open s2
  obtain rfl := k27_open s5
  obtain rfl := k27_open s8
  exact rfl
theorem k31_mk (w : World) (x : S31)  : k31.K w x [.string x.f0, .string x.f1, .int .i64 x.f2.f0, .int .i64 x.f2.f1, .int .i64 x.f2.f2, .int .i64 x.f3.f0, .int .i64 x.f3.f1, .int .i64 x.f3.f2, .int .i64 x.f4.f0, .int .i64 x.f4.f1, .int .i64 x.f4.f2, .int .i64 x.f5] := ⟨[.string x.f0], [.string x.f1, .int .i64 x.f2.f0, .int .i64 x.f2.f1, .int .i64 x.f2.f2, .int .i64 x.f3.f0, .int .i64 x.f3.f1, .int .i64 x.f3.f2, .int .i64 x.f4.f0, .int .i64 x.f4.f1, .int .i64 x.f4.f2, .int .i64 x.f5], rfl, rfl, ⟨[.string x.f1], [.int .i64 x.f2.f0, .int .i64 x.f2.f1, .int .i64 x.f2.f2, .int .i64 x.f3.f0, .int .i64 x.f3.f1, .int .i64 x.f3.f2, .int .i64 x.f4.f0, .int .i64 x.f4.f1, .int .i64 x.f4.f2, .int .i64 x.f5], rfl, rfl, ⟨[.int .i64 x.f2.f0, .int .i64 x.f2.f1, .int .i64 x.f2.f2], [.int .i64 x.f3.f0, .int .i64 x.f3.f1, .int .i64 x.f3.f2, .int .i64 x.f4.f0, .int .i64 x.f4.f1, .int .i64 x.f4.f2, .int .i64 x.f5], rfl, (k27_mk w x.f2 ), ⟨[.int .i64 x.f3.f0, .int .i64 x.f3.f1, .int .i64 x.f3.f2], [.int .i64 x.f4.f0, .int .i64 x.f4.f1, .int .i64 x.f4.f2, .int .i64 x.f5], rfl, (k27_mk w x.f3 ), ⟨[.int .i64 x.f4.f0, .int .i64 x.f4.f1, .int .i64 x.f4.f2], [.int .i64 x.f5], rfl, (k27_mk w x.f4 ), rfl⟩⟩⟩⟩⟩
theorem k31_mkM (w : World) (base : Nat) (ok : Nat → Prop) (x : S31)  : k31.M w base ok x [.string x.f0, .string x.f1, .int .i64 x.f2.f0, .int .i64 x.f2.f1, .int .i64 x.f2.f2, .int .i64 x.f3.f0, .int .i64 x.f3.f1, .int .i64 x.f3.f2, .int .i64 x.f4.f0, .int .i64 x.f4.f1, .int .i64 x.f4.f2, .int .i64 x.f5] := ⟨[.string x.f0], [.string x.f1, .int .i64 x.f2.f0, .int .i64 x.f2.f1, .int .i64 x.f2.f2, .int .i64 x.f3.f0, .int .i64 x.f3.f1, .int .i64 x.f3.f2, .int .i64 x.f4.f0, .int .i64 x.f4.f1, .int .i64 x.f4.f2, .int .i64 x.f5], rfl, rfl, ⟨[.string x.f1], [.int .i64 x.f2.f0, .int .i64 x.f2.f1, .int .i64 x.f2.f2, .int .i64 x.f3.f0, .int .i64 x.f3.f1, .int .i64 x.f3.f2, .int .i64 x.f4.f0, .int .i64 x.f4.f1, .int .i64 x.f4.f2, .int .i64 x.f5], rfl, rfl, ⟨[.int .i64 x.f2.f0, .int .i64 x.f2.f1, .int .i64 x.f2.f2], [.int .i64 x.f3.f0, .int .i64 x.f3.f1, .int .i64 x.f3.f2, .int .i64 x.f4.f0, .int .i64 x.f4.f1, .int .i64 x.f4.f2, .int .i64 x.f5], rfl, (k27_mkM w base ok x.f2 ), ⟨[.int .i64 x.f3.f0, .int .i64 x.f3.f1, .int .i64 x.f3.f2], [.int .i64 x.f4.f0, .int .i64 x.f4.f1, .int .i64 x.f4.f2, .int .i64 x.f5], rfl, (k27_mkM w base ok x.f3 ), ⟨[.int .i64 x.f4.f0, .int .i64 x.f4.f1, .int .i64 x.f4.f2], [.int .i64 x.f5], rfl, (k27_mkM w base ok x.f4 ), rfl⟩⟩⟩⟩⟩
def rd_T31 (xs : List S31) (i : Int) : S31 := xs.getD i.toNat z31
theorem at_T31 {w : World} {A : Option Addr} {n : Nat} {xs : List S31} (h : Kd.C k31 w A n xs) (i : Int) (h0 : 0 ≤ i) (h1 : i < n) : ∃ ad , A = some ad ∧ w.cell? (ad.add (i.toNat * 12)) = some (.string (rd_T31 xs i).f0) ∧ w.cell? ⟨(ad.add (i.toNat * 12)).block, (ad.add (i.toNat * 12)).off + 1, none⟩ = some (.string (rd_T31 xs i).f1) ∧ w.cell? ⟨(ad.add (i.toNat * 12)).block, (ad.add (i.toNat * 12)).off + 2, none⟩ = some (.int .i64 (rd_T31 xs i).f2.f0) ∧ w.cell? ⟨(ad.add (i.toNat * 12)).block, (ad.add (i.toNat * 12)).off + 3, none⟩ = some (.int .i64 (rd_T31 xs i).f2.f1) ∧ w.cell? ⟨(ad.add (i.toNat * 12)).block, (ad.add (i.toNat * 12)).off + 4, none⟩ = some (.int .i64 (rd_T31 xs i).f2.f2) ∧ w.cell? ⟨(ad.add (i.toNat * 12)).block, (ad.add (i.toNat * 12)).off + 5, none⟩ = some (.int .i64 (rd_T31 xs i).f3.f0) ∧ w.cell? ⟨(ad.add (i.toNat * 12)).block, (ad.add (i.toNat * 12)).off + 6, none⟩ = some (.int .i64 (rd_T31 xs i).f3.f1) ∧ w.cell? ⟨(ad.add (i.toNat * 12)).block, (ad.add (i.toNat * 12)).off + 7, none⟩ = some (.int .i64 (rd_T31 xs i).f3.f2) ∧ w.cell? ⟨(ad.add (i.toNat * 12)).block, (ad.add (i.toNat * 12)).off + 8, none⟩ = some (.int .i64 (rd_T31 xs i).f4.f0) ∧ w.cell? ⟨(ad.add (i.toNat * 12)).block, (ad.add (i.toNat * 12)).off + 9, none⟩ = some (.int .i64 (rd_T31 xs i).f4.f1) ∧ w.cell? ⟨(ad.add (i.toNat * 12)).block, (ad.add (i.toNat * 12)).off + 10, none⟩ = some (.int .i64 (rd_T31 xs i).f4.f2) ∧ w.cell? ⟨(ad.add (i.toNat * 12)).block, (ad.add (i.toNat * 12)).off + 11, none⟩ = some (.int .i64 (rd_T31 xs i).f5) := by
  obtain ⟨ad, c, e, _, hK, hc0⟩ := Kd.C_get h z31 i h0 h1
  have hc : ∀ j u, c[j]? = some u → w.cell? (ad.add (i.toNat * 12 + j)) = some u := hc0
  obtain rfl := k31_open hK
  exact ⟨ad, e, hc 0 _ rfl, by rw [← add_field _ _ 1 (by omega)]; exact hc 1 _ rfl, by rw [← add_field _ _ 2 (by omega)]; exact hc 2 _ rfl, by rw [← add_field _ _ 3 (by omega)]; exact hc 3 _ rfl, by rw [← add_field _ _ 4 (by omega)]; exact hc 4 _ rfl, by rw [← add_field _ _ 5 (by omega)]; exact hc 5 _ rfl, by rw [← add_field _ _ 6 (by omega)]; exact hc 6 _ rfl, by rw [← add_field _ _ 7 (by omega)]; exact hc 7 _ rfl, by rw [← add_field _ _ 8 (by omega)]; exact hc 8 _ rfl, by rw [← add_field _ _ 9 (by omega)]; exact hc 9 _ rfl, by rw [← add_field _ _ 10 (by omega)]; exact hc 10 _ rfl, by rw [← add_field _ _ 11 (by omega)]; exact hc 11 _ rfl⟩
/-! #### struct type 37 -/
structure S37 where
  f0 : ByteArray
  f1 : Int
/-! #### struct type 54 -/
structure S54 where
  f0 : ByteArray
  f1 : ByteArray
  f2 : S27
  f3 : Int
/-! #### struct type 180 -/
structure S180 where
  f0 : ByteArray
  f1 : ByteArray
  f2 : S27
/-! #### struct type 58 -/
structure S58 where
  f0 : Int
  f1 : ByteArray
  f2 : ByteArray
  f3 : S27
end Go.Proofs.Ytcgefpklljclgaa.Print

namespace Go.Proofs.Ytcgefpklljclgaa.Print
open Go.RowKit Go.Proofs.YtcgefpklljclgaaW.PrintWords Go.Proofs.YtcgefpklljclgaaW.PrintLast Go.Proofs.YtcgefpklljclgaaW.PrintMore
attribute [local go_sem] max2_int min2_int max_two min_two max_three min_three max_four min_four   -- for this text's walks alone
set_option linter.unusedVariables false
set_option linter.unusedSimpArgs false
theorem eqA27 (d : Nat) (w : World) (x0 y0 : Int) (x1 y1 : Int) (x2 y2 : Int) :
    (Op.equalIn (d + 2) 27 (.agg #[.int .i64 x0, .int .i64 x1, .int .i64 x2]) (.agg #[.int .i64 y0, .int .i64 y1, .int .i64 y2])).run Try.prog w = .ok (x0 == y0 && (x1 == y1 && (x2 == y2))) w := by
  refine eqA_of Try.underlying27 (by kernel_rfl) ?_
  refine eqf_cons (by rfl) (by go_simp; rfl) (by go_simp; rfl) (by go_simp) ?_
  refine eqf_cons (by rfl) (by go_simp; rfl) (by go_simp; rfl) (by go_simp) ?_
  exact eqf_last (by rfl) (by go_simp; rfl) (by go_simp; rfl) (by go_simp)
end Go.Proofs.Ytcgefpklljclgaa.Print

namespace Go.Proofs.Ytcgefpklljclgaa.Print
open Go.RowKit Go.Proofs.YtcgefpklljclgaaW.PrintWords Go.Proofs.YtcgefpklljclgaaW.PrintLast Go.Proofs.YtcgefpklljclgaaW.PrintMore
attribute [local go_sem] max2_int min2_int max_two min_two max_three min_three max_four min_four   -- for this text's walks alone
set_option linter.unusedVariables false
set_option linter.unusedSimpArgs false
/-! ### vec_by: function 162 -/
/-- what 'by' makes of a list -/
def vecByF (op : Int → Int → Int) : List S27 → Int → Int → Int → Int × Int × Int
  | [], a, b, d => (a, b, d)
  | v :: l, a, b, d => vecByF op l (op a v.f0) (op b v.f1) (op d v.f2)
theorem vecByF_snoc (op : Int → Int → Int) (v : S27) : ∀ (l : List S27) (a b d : Int), vecByF op (l ++ [v]) a b d = (op (vecByF op l a b d).1 v.f0, op (vecByF op l a b d).2.1 v.f1, op (vecByF op l a b d).2.2 v.f2)
  | [], _, _, _ => rfl
  | _ :: l, _, _, _ => vecByF_snoc op v l _ _ _
theorem vecByF_take (op : Int → Int → Int) (l : List S27) (a b d : Int) (i : Nat) (h : i < l.length) : vecByF op (l.take (i + 1)) a b d = (op (vecByF op (l.take i) a b d).1 (rd_T27 l i).f0, op (vecByF op (l.take i) a b d).2.1 (rd_T27 l i).f1, op (vecByF op (l.take i) a b d).2.2 (rd_T27 l i).f2) := by
  have e : rd_T27 l i = l[i] := by simp [rd_T27, h]
  rw [List.take_succ_eq_append_getElem h, vecByF_snoc, e]
set_option maxHeartbeats 1000000 in
set_option maxRecDepth 100000 in
theorem vecBy_calls (g : Nat) (op : Int → Int → Int) (eg : ∀ args w, (callFunc g args).run Try.prog w = .ok (.enter g args) w) (hop : ∀ x y W, Calls Try.prog g #[.int .i64 x, .int .i64 y] W fun e w' => e = .returned (.int .i64 (op x y)) ∧ w' = W)
    (A : Option Addr) (c : Nat) (l : List S27) (a b d : Int) (w : World) (hr0 : Kd.C k27 w A l.length l) (hc0 : l.length ≤ c) (hm : l.length ≤ maxLen) :
    Calls Try.prog 162 #[.func (.func g) #[] #[], .agg #[.int .i64 a, .int .i64 b, .int .i64 d], .slice A l.length c] w fun e w' => e = .returned (.agg #[.int .i64 (vecByF op l a b d).1, .int .i64 (vecByF op l a b d).2.1, .int .i64 (vecByF op l a b d).2.2]) ∧ Below w.heap.size w w' := by
  have hu27 := Try.underlying27
  have HR0 := Aside0.mk hr0
  have HOP := Aside0.mk hop
  have HEG := Aside0.mk eg
  have HBT := Aside0.mk (vecByF_take op l a b d)
  clear hr0 hop eg
  unfold maxLen at hm
  go_enter Try.func162, Try.ntmps162
  go_wp2
  go_loopg [11] l.length (fun kq s11 wr => ∃ i : Nat, i ≤ l.length ∧ l.length - i ≤ kq ∧ s11 = .int .i64 i ∧ Aside0 (Below w.heap.size w wr) ∧ Aside0 (wr.heap[w.heap.size]? = some (.cells #[.int .i64 (vecByF op (l.take i) a b d).1, .int .i64 (vecByF op (l.take i) a b d).2.1, .int .i64 (vecByF op (l.take i) a b d).2.2] 27 (0, 0))) ∧ Aside0 (wr.heap[w.heap.size + 1]? = some (.cells #[.int .i64 0, .int .i64 0, .int .i64 0] 27 (0, 0))))
  case atStart =>
    exact ⟨0, by omega, by omega, rfl, ⟨below_alloc (below_alloc (Below.refl _ _) _) _⟩, ⟨blk_alloc (blk_new _ _) _⟩, ⟨by have := blk_new (w.alloc (.cells #[.int .i64 a, .int .i64 b, .int .i64 d] 27)) (.cells #[.int .i64 0, .int .i64 0, .int .i64 0] 27); simpa using this⟩⟩
  case round =>
    obtain ⟨i, hi, hg, rfl, HB, HF, HZ⟩ := hrel
    generalize hq : vecByF op (l.take i) a b d = q at HF
    have HQ := Aside0.mk hq
    clear hq
    by_cases hlt : i < l.length
    · have hltz : (i : Int) < (l.length : Int) := by omega
      obtain ⟨ad, e1, h0, h1, h2⟩ := at_T27 HR0.out (i : Int) (by omega) (by omega)
      cases e1
      simp only [Int.toNat_natCast] at h0 h1 h2
      replace h0 := (HB.out.cell (World.block_lt_of_cell? w _ h0)).trans h0
      replace h1 := (HB.out.cell (World.block_lt_of_cell? w _ h1)).trans h1
      replace h2 := (HB.out.cell (World.block_lt_of_cell? w _ h2)).trans h2
      have hsz : w.heap.size + 1 < wr.heap.size := blk_lt HZ.out
      go_wp2
      obtain ⟨W1, hW1⟩ : ∃ W1, W1 = (wr.alloc (.cells #[.int .i64 (rd_T27 l i).f0, .int .i64 (rd_T27 l i).f1, .int .i64 (rd_T27 l i).f2] 27)).drew := ⟨_, rfl⟩
      have hF1 : W1.heap[w.heap.size]? = some (.cells #[.int .i64 q.1, .int .i64 q.2.1, .int .i64 q.2.2] 27 (0, 0)) := by rw [hW1]; exact blk_alloc HF.out _
      have hZ1 : W1.heap[w.heap.size + 1]? = some (.cells #[.int .i64 0, .int .i64 0, .int .i64 0] 27 (0, 0)) := by rw [hW1]; exact blk_alloc HZ.out _
      have hV1 : W1.heap[wr.heap.size]? = some (.cells #[.int .i64 (rd_T27 l i).f0, .int .i64 (rd_T27 l i).f1, .int .i64 (rd_T27 l i).f2] 27 (0, 0)) := by rw [hW1]; exact blk_new _ _
      have hB1 : Below w.heap.size w W1 := by rw [hW1]; exact below_drew (below_alloc HB.out _)
      refine wp_region_still_tail 19 (by kernel_rfl) (by kernel_rfl) ?_
      change wpStill _ _ (World.drew _) _ _ _
      rw [← hW1]
      simp only [List.take_succ_cons, List.take_zero, List.drop_succ_cons, List.drop_zero]
      have HV1 := Aside0.mk hV1
      have HF1 := Aside0.mk hF1
      have HZ1 := Aside0.mk hZ1
      have HB1 := Aside0.mk hB1
      have f0 := (blk_cell hF1 0).trans rfl
      have f1 := (blk_cell hF1 1).trans rfl
      have f2 := (blk_cell hF1 2).trans rfl
      have g0 := (blk_cell hV1 0).trans rfl
      have g1 := (blk_cell hV1 1).trans rfl
      have g2 := (blk_cell hV1 2).trans rfl
      have HW1 := Aside0.mk hW1
      clear hW1 hF1 hZ1 hV1 hB1
      have eg := HEG.out
      repeat still_step
      still_call (HOP.out _ _ _)
      repeat still_step
      still_call (HOP.out _ _ _)
      repeat still_step
      still_call (HOP.out _ _ _)
      repeat still_step
      refine wpStill_nil ?_
      change wpList _ _ _ _ _ (World.drew _)
      rw [← HW1.out]
      have z0 := blk_frozen HF1.out 0
      have z1 := blk_frozen HF1.out 1
      have z2 := blk_frozen HF1.out 2
      have hs1 : w.heap.size < W1.heap.size := blk_lt HF1.out
      go_wp2
      have hb := HBT.out i hlt
      rw [HQ.out] at hb
      have HH := Aside0.mk hb
      clear hb
      go_roundg (l.length - (i + 1))
      case measure => omega
      case rel =>
        refine ⟨i + 1, by omega, by omega, by go_num, ⟨below_set (below_set (below_set HB1.out (Nat.le_refl _)) (Nat.le_refl _)) (Nat.le_refl _)⟩, ⟨?_⟩, ⟨blk_far (blk_far (blk_far HZ1.out (by simp) _) (by simp) _) (by simp) _⟩⟩
        rw [HH.out]
        exact blk_put (blk_put (blk_put HF1.out 0 _ rfl) 1 _ rfl) 2 _ rfl
    · obtain rfl : i = l.length := by omega
      have hq : q = vecByF op l a b d := HQ.out.symm.trans (by rw [List.take_length])
      subst hq
      have HQ' := HQ
      clear HQ HBT
      have f0 := (blk_cell HF.out 0).trans rfl
      have f1 := (blk_cell HF.out 1).trans rfl
      have f2 := (blk_cell HF.out 2).trans rfl
      have g0 := (blk_cell HZ.out 0).trans rfl
      have g1 := (blk_cell HZ.out 1).trans rfl
      have g2 := (blk_cell HZ.out 2).trans rfl
      have z0 := blk_frozen HZ.out 0
      have z1 := blk_frozen HZ.out 1
      have z2 := blk_frozen HZ.out 2
      have hs1 : w.heap.size + 1 < wr.heap.size := blk_lt HZ.out
      go_wp2
      refine bodyPost_ret (results_cell_row rfl _ _ (w.heap.size + 1) 27 #[.int .i64 (vecByF op l a b d).1, .int .i64 (vecByF op l a b d).2.1, .int .i64 (vecByF op l a b d).2.2] (0, 0) _ rfl (blk_put (blk_put (blk_put HZ.out 0 _ rfl) 1 _ rfl) 2 _ rfl) Try.underlying27 rfl (by kernel_rfl)) rfl ?_
      exact ⟨rfl, below_set (below_set (below_set HB.out (Nat.le_succ _)) (Nat.le_succ _)) (Nat.le_succ _)⟩
end Go.Proofs.Ytcgefpklljclgaa.Print

namespace Go.Proofs.Ytcgefpklljclgaa.Print
open Go.RowKit Go.Proofs.YtcgefpklljclgaaW.PrintWords Go.Proofs.YtcgefpklljclgaaW.PrintLast Go.Proofs.YtcgefpklljclgaaW.PrintMore
attribute [local go_sem] max2_int min2_int max_two min_two max_three min_three max_four min_four   -- for this text's walks alone
set_option linter.unusedVariables false
set_option linter.unusedSimpArgs false
/-! ### vec_Add: function 119 -/
theorem vecAdd1_calls (x y : Int) (W : World) : Calls Try.prog 163 #[.int .i64 x, .int .i64 y] W fun e w' => e = .returned (.int .i64 (wrap64 (x + y))) ∧ w' = W := by
  go_enter Try.func163, Try.ntmps163
  go_wp2
  go_ret
  exact ⟨rfl, rfl⟩
def vec_Add.f (l0 : List (S27)) : Option (Int × Int × Int) := some (vecByF (fun x y => wrap64 (x + y)) l0 0 0 0)
set_option maxHeartbeats 1000000 in
set_option maxRecDepth 100000 in
theorem vec_Add.calls (A0 : Option Addr) (c0 : Nat) (l0 : List (S27)) (r1 : Int) (r2 : Int) (r3 : Int) (w : World) (hr0 : Kd.C k27 w A0 l0.length l0) (hc0 : l0.length ≤ c0) (h : vec_Add.f l0 = some (r1, r2, r3)) :
    Calls Try.prog 119 #[.slice A0 l0.length c0] w fun e w' => e = .returned (.agg #[.int .i64 r1, .int .i64 r2, .int .i64 r3]) ∧ Below w.heap.size w w' := by
  have hu27 := Try.underlying27
  have hm : l0.length ≤ maxLen := hr0.2.1
  have HC := Aside0.mk (vecBy_calls 163 (fun x y => wrap64 (x + y)) (enters_of Try.func163 (by kernel_rfl) rfl) vecAdd1_calls A0 c0 l0 0 0 0 (w.alloc (.cells #[.int .i64 0, .int .i64 0, .int .i64 0] 27)) (Kd.C_below hr0 (below_alloc (Below.refl _ _) _)) hc0 hm)
  have HH := Aside0.mk h
  clear hr0 h
  go_enter Try.func119, Try.ntmps119
  go_wp2_with fail
  refine HC.out.mono ?_
  rintro e w1 ⟨rfl, hb⟩
  have h := Option.some.inj (show some (vecByF (fun x y => wrap64 (x + y)) l0 0 0 0) = some (r1, r2, r3) from HH.out)
  rw [h]
  have hZ := blk_below (blk_new w (.cells #[.int .i64 0, .int .i64 0, .int .i64 0] 27)) hb
  have HB := Aside0.mk hb
  have HZ := Aside0.mk hZ
  clear h hb hZ
  have g0 := (blk_cell HZ.out 0).trans rfl
  have g1 := (blk_cell HZ.out 1).trans rfl
  have g2 := (blk_cell HZ.out 2).trans rfl
  have z0 := blk_frozen HZ.out 0
  have z1 := blk_frozen HZ.out 1
  have z2 := blk_frozen HZ.out 2
  have hs1 : w.heap.size < w1.heap.size := blk_lt HZ.out
  go_wp2
  refine bodyPost_ret (results_cell_row rfl _ _ w.heap.size 27 #[.int .i64 r1, .int .i64 r2, .int .i64 r3] (0, 0) _ rfl (blk_put (blk_put (blk_put HZ.out 0 _ rfl) 1 _ rfl) 2 _ rfl) Try.underlying27 rfl (by kernel_rfl)) rfl ?_
  exact ⟨rfl, below_set (below_set (below_set (below_step (below_alloc (Below.refl _ _) _) HB.out) (Nat.le_refl _)) (Nat.le_refl _)) (Nat.le_refl _)⟩
end Go.Proofs.Ytcgefpklljclgaa.Print

namespace Go.Proofs.Ytcgefpklljclgaa.Print
open Go.RowKit Go.Proofs.YtcgefpklljclgaaW.PrintWords Go.Proofs.YtcgefpklljclgaaW.PrintLast Go.Proofs.YtcgefpklljclgaaW.PrintMore
attribute [local go_sem] max2_int min2_int max_two min_two max_three min_three max_four min_four   -- for this text's walks alone
set_option linter.unusedVariables false
set_option linter.unusedSimpArgs false
/-! ### vec_Sub: function 134 -/
theorem vecSub1_calls (x y : Int) (W : World) : Calls Try.prog 166 #[.int .i64 x, .int .i64 y] W fun e w' => e = .returned (.int .i64 (wrap64 (x - y))) ∧ w' = W := by
  go_enter Try.func166, Try.ntmps166
  go_wp2
  go_ret
  exact ⟨rfl, rfl⟩
/-- one struct of three ints in a block of its own reads as a row of one -/
theorem vec_one_row {W : World} {g : Nat} (x : S27) (h : W.heap[g]? = some (.cells #[.int .i64 x.f0, .int .i64 x.f1, .int .i64 x.f2] 27 (0, 0))) : Kd.C k27 W (some ⟨g, 0, none⟩) [x].length [x] := by
  refine ⟨rfl, by simp, fun _ => ⟨_, rfl, fun j p hj => ?_⟩⟩
  obtain ⟨rfl, rfl⟩ : j = 0 ∧ x = p := by
    cases j with
    | zero => exact ⟨rfl, by simpa using hj⟩
    | succ j => simp at hj
  refine ⟨_, rfl, k27_mk W x, fun i u hi => ?_⟩
  rw [Addr.add_lit, blk_cell h, ← hi]
  simp
def vec_Sub.f (a0_0 : Int) (a0_1 : Int) (a0_2 : Int) (a1_0 : Int) (a1_1 : Int) (a1_2 : Int) : Option (Int × Int × Int) := some (wrap64 (a0_0 - a1_0), wrap64 (a0_1 - a1_1), wrap64 (a0_2 - a1_2))
set_option maxHeartbeats 1000000 in
set_option maxRecDepth 100000 in
theorem vec_Sub.calls (a0_0 : Int) (a0_1 : Int) (a0_2 : Int) (a1_0 : Int) (a1_1 : Int) (a1_2 : Int) (r1 : Int) (r2 : Int) (r3 : Int) (w : World) (h : vec_Sub.f a0_0 a0_1 a0_2 a1_0 a1_1 a1_2 = some (r1, r2, r3)) :
    Calls Try.prog 134 #[.agg #[.int .i64 a0_0, .int .i64 a0_1, .int .i64 a0_2], .agg #[.int .i64 a1_0, .int .i64 a1_1, .int .i64 a1_2]] w fun e w' => e = .returned (.agg #[.int .i64 r1, .int .i64 r2, .int .i64 r3]) ∧ Below w.heap.size w w' := by
  have hu27 := Try.underlying27
  have HC := Aside0.mk (fun (W : World) (g : Nat) (hb : W.heap[g]? = some (.cells #[.int .i64 a1_0, .int .i64 a1_1, .int .i64 a1_2] 27 (0, 0))) => vecBy_calls 166 (fun x y => wrap64 (x - y)) (enters_of Try.func166 (by kernel_rfl) rfl) vecSub1_calls (some ⟨g, 0, none⟩) 1 [⟨a1_0, a1_1, a1_2⟩] a0_0 a0_1 a0_2 W (vec_one_row ⟨a1_0, a1_1, a1_2⟩ hb) (Nat.le_refl _) (by simp [maxLen]))
  have HH := Aside0.mk h
  clear h
  go_enter Try.func134, Try.ntmps134
  go_wp2_with fail
  obtain ⟨w3, hw3⟩ : ∃ w3, w3 = ((w.alloc (.cells #[.int .i64 a0_0, .int .i64 a0_1, .int .i64 a0_2] 27)).alloc (.cells #[.int .i64 a1_0, .int .i64 a1_1, .int .i64 a1_2] 27)).alloc (.cells #[.int .i64 0, .int .i64 0, .int .i64 0] 27) := ⟨_, rfl⟩
  have hs3 : w3.heap.size = w.heap.size + 1 + 1 + 1 := by rw [hw3]; simp
  have hz3 : w3.heap[w.heap.size + 1 + 1]? = some (.cells #[.int .i64 0, .int .i64 0, .int .i64 0] 27 (0, 0)) := by rw [hw3]; have := blk_new ((w.alloc (.cells #[.int .i64 a0_0, .int .i64 a0_1, .int .i64 a0_2] 27)).alloc (.cells #[.int .i64 a1_0, .int .i64 a1_1, .int .i64 a1_2] 27)) (.cells #[.int .i64 0, .int .i64 0, .int .i64 0] 27); simpa using this
  have hb3 : Below w.heap.size w w3 := by rw [hw3]; exact below_alloc (below_alloc (below_alloc (Below.refl _ _) _) _) _
  rw [← hw3, ← hs3]
  clear hw3
  have hn := blk_new w3 (.cells #[.int .i64 a1_0, .int .i64 a1_1, .int .i64 a1_2] 27)
  refine (HC.out _ _ hn).mono ?_
  rintro e w1 ⟨rfl, hb⟩
  have h := Option.some.inj (show some (vecByF (fun x y => wrap64 (x - y)) [⟨a1_0, a1_1, a1_2⟩] a0_0 a0_1 a0_2) = some (r1, r2, r3) from HH.out)
  rw [h]
  have HB := Aside0.mk (below_step (below_step hb3 (below_alloc (Below.refl _ _) _)) hb)
  have HZ := Aside0.mk (blk_below (blk_alloc hz3 (.cells #[.int .i64 a1_0, .int .i64 a1_1, .int .i64 a1_2] 27)) hb)
  clear h hb hn hb3 hz3 HC
  have HS3 := Aside0.mk hs3
  clear hs3
  have g0 := (blk_cell HZ.out 0).trans rfl
  have g1 := (blk_cell HZ.out 1).trans rfl
  have g2 := (blk_cell HZ.out 2).trans rfl
  have z0 := blk_frozen HZ.out 0
  have z1 := blk_frozen HZ.out 1
  have z2 := blk_frozen HZ.out 2
  have hs1 : w.heap.size + 1 + 1 < w1.heap.size := blk_lt HZ.out
  go_wp2
  refine bodyPost_ret (results_cell_row rfl _ _ (w.heap.size + 1 + 1) 27 #[.int .i64 r1, .int .i64 r2, .int .i64 r3] (0, 0) _ rfl (blk_put (blk_put (blk_put HZ.out 0 _ rfl) 1 _ rfl) 2 _ rfl) Try.underlying27 rfl (by kernel_rfl)) rfl ?_
  have hle : w.heap.size ≤ w.heap.size + 1 + 1 := by omega
  exact ⟨rfl, below_set (below_set (below_set HB.out hle) hle) hle⟩
end Go.Proofs.Ytcgefpklljclgaa.Print

namespace Go.Proofs.Ytcgefpklljclgaa.Print
open Go.RowKit Go.Proofs.YtcgefpklljclgaaW.PrintWords Go.Proofs.YtcgefpklljclgaaW.PrintLast Go.Proofs.YtcgefpklljclgaaW.PrintMore
attribute [local go_sem] max2_int min2_int max_two min_two max_three min_three max_four min_four   -- for this text's walks alone
set_option linter.unusedVariables false
set_option linter.unusedSimpArgs false
/-! ### idx_Item: function 127 -/
/-- the first place from i on whose element is so; -1: none -/
def fidx {α : Type} (p : α → Bool) : List α → Int → Int
  | [], _ => -1
  | x :: l, i => if p x = true then i else fidx p l (i + 1)
theorem fidx_drop {α : Type} (p : α → Bool) (z : α) (l : List α) (i : Nat) (h : i < l.length) : fidx p (l.drop i) i = if p (l.getD i z) = true then (i : Int) else fidx p (l.drop (i + 1)) ((i + 1 : Nat) : Int) := by
  rw [List.drop_eq_getElem_cons h, List.getD_eq_getElem?_getD, List.getElem?_eq_getElem h]
  rfl
def itemCells (x : S31) : Array Value := #[.string x.f0, .string x.f1, .int .i64 x.f2.f0, .int .i64 x.f2.f1, .int .i64 x.f2.f2, .int .i64 x.f3.f0, .int .i64 x.f3.f1, .int .i64 x.f3.f2, .int .i64 x.f4.f0, .int .i64 x.f4.f1, .int .i64 x.f4.f2, .int .i64 x.f5]
set_option maxHeartbeats 1000000 in
set_option maxRecDepth 100000 in
theorem idxItem_calls (g : Nat) (lb : Array Value) (p : S31 → Bool) (eg : ∀ args w, (callFunc g args).run Try.prog w = .ok (.enter g args) w) (w : World)
    (hp : ∀ W x, Below w.heap.size w W → Calls Try.prog g (#[.agg (itemCells x)] ++ lb) W fun e w' => e = .returned (.bool (p x)) ∧ Below W.heap.size W w')
    (A : Option Addr) (c : Nat) (l : List S31) (hr0 : Kd.C k31 w A l.length l) (hc0 : l.length ≤ c) :
    Calls Try.prog 127 #[.slice A l.length c, .func (.func g) #[] lb] w fun e w' => e = .returned (.int .i64 (fidx p l 0)) ∧ Below w.heap.size w w' := by
  have hu31 := Try.underlying31
  have HR0 := Aside0.mk hr0
  have HP := Aside0.mk hp
  have HEG := Aside0.mk eg
  have hm : l.length ≤ 9223372036854775807 := hr0.2.1
  clear hr0 hp eg
  go_enter Try.func127, Try.ntmps127
  go_wp2
  go_loopg [5, 8] l.length (fun kq s5 s8 wr => ∃ i : Nat, i ≤ l.length ∧ l.length - i ≤ kq ∧ s8 = .int .i64 i ∧ Aside0 (Below w.heap.size w wr) ∧ Aside0 (fidx p l 0 = fidx p (l.drop i) i))
  case atStart => exact ⟨0, by omega, by omega, rfl, ⟨Below.refl _ _⟩, ⟨rfl⟩⟩
  case round =>
    obtain ⟨i, hi, hg, rfl, HB, HF⟩ := hrel
    by_cases hlt : i < l.length
    · have hltz : (i : Int) < (l.length : Int) := by omega
      obtain ⟨ad, e1, h0, h1, h2, h3, h4, h5, h6, h7, h8, h9, h10, h11⟩ := at_T31 HR0.out (i : Int) (by omega) (by omega)
      cases e1
      simp only [Int.toNat_natCast] at h0 h1 h2 h3 h4 h5 h6 h7 h8 h9 h10 h11
      replace h0 := (HB.out.cell (World.block_lt_of_cell? w _ h0)).trans h0
      replace h1 := (HB.out.cell (World.block_lt_of_cell? w _ h1)).trans h1
      replace h2 := (HB.out.cell (World.block_lt_of_cell? w _ h2)).trans h2
      replace h3 := (HB.out.cell (World.block_lt_of_cell? w _ h3)).trans h3
      replace h4 := (HB.out.cell (World.block_lt_of_cell? w _ h4)).trans h4
      replace h5 := (HB.out.cell (World.block_lt_of_cell? w _ h5)).trans h5
      replace h6 := (HB.out.cell (World.block_lt_of_cell? w _ h6)).trans h6
      replace h7 := (HB.out.cell (World.block_lt_of_cell? w _ h7)).trans h7
      replace h8 := (HB.out.cell (World.block_lt_of_cell? w _ h8)).trans h8
      replace h9 := (HB.out.cell (World.block_lt_of_cell? w _ h9)).trans h9
      replace h10 := (HB.out.cell (World.block_lt_of_cell? w _ h10)).trans h10
      replace h11 := (HB.out.cell (World.block_lt_of_cell? w _ h11)).trans h11
      have hd : Aside0 _ := ⟨fidx_drop p z31 l i hlt⟩
      have HC := Aside0.mk (HP.out wr (rd_T31 l i) HB.out)
      generalize hy : rd_T31 l i = y at h0 h1 h2 h3 h4 h5 h6 h7 h8 h9 h10 h11 HC
      have hq : p (l.getD i z31) = p y := by rw [← hy]; simp [rd_T31]
      have HQ := Aside0.mk hq
      clear hy hq
      have eg := HEG.out
      cases hb : p y with
      | true =>
        rw [hb] at HC HQ
        clear hb
        go_wp2_with (go_at_fn g;refine HC.out.mono ?_;rintro e w' ⟨rfl, hb'⟩;have HB' := Aside0.mk (below_step HB.out hb');clear hb')
        go_ret
        refine ⟨?_, HB'.out⟩
        rw [HF.out, hd.out, HQ.out]
        rfl
      | false =>
        rw [hb] at HC HQ
        clear hb
        go_wp2_with (go_at_fn g;refine HC.out.mono ?_;rintro e w' ⟨rfl, hb'⟩;have HB' := Aside0.mk (below_step HB.out hb');clear hb')
        go_roundg (l.length - (i + 1))
        case measure => omega
        case rel => exact ⟨i + 1, by omega, by omega, by go_num, HB', ⟨by rw [HF.out, hd.out, HQ.out];rfl⟩⟩
    · obtain rfl : i = l.length := by omega
      go_wp2
      go_ret
      refine ⟨?_, HB.out⟩
      rw [HF.out, List.drop_length]
      rfl
end Go.Proofs.Ytcgefpklljclgaa.Print

namespace Go.Proofs.Ytcgefpklljclgaa.Print
open Go.RowKit Go.Proofs.YtcgefpklljclgaaW.PrintWords Go.Proofs.YtcgefpklljclgaaW.PrintLast Go.Proofs.YtcgefpklljclgaaW.PrintMore
attribute [local go_sem] max2_int min2_int max_two min_two max_three min_three max_four min_four   -- for this text's walks alone
set_option linter.unusedVariables false
set_option linter.unusedSimpArgs false
/-! ### tree_Find: function 71 -/
set_option maxHeartbeats 1000000 in
set_option maxRecDepth 100000 in
theorem treeFind1_calls (W : World) (b : Nat) (nm : ByteArray) (hb : W.heap[b]? = some (.cells #[.string nm] 9 (0, 0))) (x : S31) :
    Calls Try.prog 128 #[.agg (itemCells x), .pointer (some ⟨b, 0, none⟩)] W fun e w' => e = .returned (.bool (x.f0.toList == nm.toList)) ∧ Below W.heap.size W w' := by
  unfold itemCells
  have hu31 := Try.underlying31
  have h0 := (blk_cell hb 0).trans rfl
  have hl : b < W.heap.size := blk_lt hb
  clear hb
  go_enter Try.func128, Try.ntmps128
  go_wp2
  go_ret
  exact ⟨rfl, by repeat (first|(with_reducible first|exact Below.refl _ _|apply below_alloc|apply pw_below_drewN|apply below_drew1))⟩
/-- a name's place -/
def tree_Find.f (l0 : List (S31)) (a1 : ByteArray) : Option Int := some (fidx (fun x => x.f0.toList == a1.toList) l0 0)
set_option maxHeartbeats 1000000 in
set_option maxRecDepth 100000 in
theorem tree_Find.calls (A0 : Option Addr) (c0 : Nat) (l0 : List (S31)) (a1 : ByteArray) (r : Int) (w : World) (hr0 : Kd.C k31 w A0 l0.length l0) (hc0 : l0.length ≤ c0) (h : tree_Find.f l0 a1 = some r) :
    Calls Try.prog 71 #[.slice A0 l0.length c0, .string a1] w fun e w' => e = .returned (.int .i64 r) ∧ Below w.heap.size w w' := by
  have hr : fidx (fun x => x.f0.toList == a1.toList) l0 0 = r := Option.some.inj h
  obtain ⟨W1, hW1⟩ : ∃ W1, W1 = w.alloc (.cells #[.string a1] 9) := ⟨_, rfl⟩
  have hn : W1.heap[w.heap.size]? = some (.cells #[.string a1] 9 (0, 0)) := by rw [hW1]; exact blk_new _ _
  have hB : Below w.heap.size w W1 := by rw [hW1]; exact below_alloc (Below.refl _ _) _
  have HC := Aside0.mk (idxItem_calls 128 #[.pointer (some ⟨w.heap.size, 0, none⟩)] (fun x => x.f0.toList == a1.toList) (enters_of Try.func128 (by kernel_rfl) rfl) W1 (fun W x hb => treeFind1_calls W w.heap.size a1 (blk_below hn hb) x) A0 c0 l0 (Kd.C_below hr0 hB) hc0)
  rw [hr] at HC
  have HW := Aside0.mk hW1
  have HB := Aside0.mk hB
  clear hr0 hr hW1 hn hB h
  go_enter Try.func71, Try.ntmps71
  go_wp2_with fail
  rw [← HW.out]
  refine HC.out.mono ?_
  rintro e w' ⟨rfl, hb⟩
  have HB' := Aside0.mk (below_step HB.out hb)
  clear hb
  go_wp2
  go_ret
  exact ⟨rfl, HB'.out⟩
end Go.Proofs.Ytcgefpklljclgaa.Print

namespace Go.Proofs.Ytcgefpklljclgaa.Print
open Go.RowKit Go.Proofs.YtcgefpklljclgaaW.PrintWords Go.Proofs.YtcgefpklljclgaaW.PrintLast Go.Proofs.YtcgefpklljclgaaW.PrintMore
attribute [local go_sem] max2_int min2_int max_two min_two max_three min_three max_four min_four   -- for this text's walks alone
set_option linter.unusedVariables false
set_option linter.unusedSimpArgs false
/-! ### tree_Up: function 70 -/
def tree_Up.l0 : Nat → List (S31) → List ByteArray → Int → Option (List ByteArray)
 | 0, _, _, _ => none
 | k + 1, x0, x5, x6 => if x6 ≥ 0 then (if (x5.length : Int) ≤ (x0.length : Int) then (if 0 ≤ x6 then (if x6 < (x0.length : Int) then (if x5.length < 8796093022208 then ((tree_Find.f x0 ((rd_T31 x0 x6).f1)).bind fun t7 => (tree_Up.l0 k x0 (x5 ++ [(rd_T31 x0 x6).f0]) t7)) else (none)) else (none)) else (none)) else (some x5)) else (some x5)
def tree_Up.f (k : Nat) (l0 : List (S31)) (a1 : ByteArray) : Option (List ByteArray) := (tree_Find.f l0 a1).bind fun t1 => (tree_Up.l0 k l0 ([] : List ByteArray) t1)
theorem tree_Up.mono_l : ∀ k, (∀ y0 y1 y2, LeO (tree_Up.l0 k y0 y1 y2) (tree_Up.l0 (k + 1) y0 y1 y2))
 | 0 => fun _ _ _ r h => by simp [tree_Up.l0] at h
 | k + 1 => by
  have ih0 := tree_Up.mono_l k
  ·intro y0 y1 y2
   unfold tree_Up.l0
   repeat' first
   | (with_reducible exact ih0 _ _ _)
   | (with_reducible exact LeO.refl _)
   | (with_reducible exact LeO.none _)
   | (with_reducible refine LeO.ite ?_ ?_)
   | (with_reducible refine LeO.bind ?_ (fun _ => ?_))
   | exact ih0 _ _ _
   | exact LeO.none _
   | refine LeO.ite ?_ ?_
   | refine LeO.bind ?_ (fun _ => ?_)
theorem tree_Up.mono : ∀ a0 a1 k, LeO (tree_Up.f k a0 a1) (tree_Up.f (k + 1) a0 a1) := by
 intro a0 a1 k
 have ih0 := tree_Up.mono_l k
 unfold tree_Up.f
 repeat' first
   | (with_reducible exact ih0 _ _ _)
   | (with_reducible exact LeO.refl _)
   | (with_reducible exact LeO.none _)
   | (with_reducible refine LeO.ite ?_ ?_)
   | (with_reducible refine LeO.bind ?_ (fun _ => ?_))
   | exact ih0 _ _ _
   | exact LeO.none _
   | refine LeO.ite ?_ ?_
   | refine LeO.bind ?_ (fun _ => ?_)
set_option maxHeartbeats 8000000 in
set_option maxRecDepth 100000 in
theorem tree_Up.calls (k : Nat) (A0 : Option Addr) (c0 : Nat) (l0 : List (S31)) (a1 : ByteArray) (r : List ByteArray) (w : World) (hr0 : Kd.C k31 w A0 l0.length l0) (hc0 : l0.length ≤ c0) (h : tree_Up.f k l0 a1 = some r) :
  Calls Try.prog 70 #[.slice A0 l0.length c0, .string a1] w fun e w' => ∃ v0_ : Value, e = .returned (v0_) ∧ Kd.R Kd.string 9 w' w.heap.size (fun _ => True) v0_ r ∧ Below w.heap.size w w' := by
 have HR0 := Aside0.mk hr0
 have HC0 := Aside0.mk hc0
 clear hr0 hc0
 have HB := Aside0.mk (Below.refl w.heap.size w)
 have H : ((tree_Find.f l0 a1).bind fun t1 => (tree_Up.l0 k l0 ([] : List ByteArray) t1)) = some r := h
 clear h
 replace H := Option.bind_eq_some_iff.mp H
 obtain ⟨t1, A30, H⟩ := H
 replace H : (tree_Up.l0 k l0 ([] : List ByteArray) t1) = some r := H
 have A3 := Aside0.mk A30
 clear A30
 have H' := Aside0.mk H
 clear H
 go_enter Try.func70, Try.ntmps70
 go_wp2_with (first|((with_reducible refine gate_callee (f := 71) rfl ?_);refine goesL_ (some 9) rfl rfl Try.func71 (by kernel_rfl) rfl #[.slice A0 l0.length c0, .string a1] rfl (by (try simp only [List.map_toArray, List.map_cons, List.map_nil]);first|done|rfl|(simp only [List.length_drop, List.length_take];rfl)) ?_;(with_reducible refine (tree_Find.calls _ _ l0 a1 t1 _ ?side1 ?side2 A3.out).mono ?_);(case side1 => repeat (first|exact HR0.out|(with_reducible refine Kd.C_alloc ?_ _)|(with_reducible refine Kd.C_drewN ?_ _)|(with_reducible refine Kd.C_drew ?_)));(case side2 => exact HC0.out);rintro e w4 ⟨rfl, hb⟩;refine ⟨_, rfl, ?_⟩;have n0_ := Aside0.mk (below_step (by repeat (first|(with_reducible first|exact HB.out|apply below_alloc|apply pw_below_drewN|apply below_drew1)|exact HB.out)) hb);clear HB;have HB := n0_;clear n0_;(try clear hb);(try clear hb2);(try clear hk);(try clear hi)))
 go_loopg [5, 6] k (fun kq v5 v6 w' => ∃ (x5_1 : List ByteArray) (x6_1 : Int), v6 = .int .i64 x6_1 ∧ Aside0 (tree_Up.l0 kq l0 x5_1 x6_1 = some r) ∧ Aside0 (kq ≤ k) ∧ Aside0 (Kd.R Kd.string 9 w' w.heap.size (fun _ => True) v5 x5_1) ∧ Aside0 (Below w.heap.size w w'))
 case atStart => exact ⟨(([] : List ByteArray)), (t1), (by first|rfl|(simp;done)|(simp [*];done)), H', ⟨Nat.le_refl _⟩, ⟨by first|exact Kd.R_nil _ _ _ _ _|exact Kd.N_nil _ _ _ _ _|exact Kd.V_nil _ _ _ _ _|exact Kd.Q_nil _ _ _ _ _|exact Kd.S_nil _ _ _ _ _⟩, ⟨by repeat (first|(with_reducible first|exact HB.out|apply below_alloc|apply pw_below_drewN|apply below_drew1)|exact HB.out)⟩⟩
 case round =>
  clear H'
  try clear p2
  obtain ⟨x5_1, x6_1, rfl, HA, HK1, HO_5, HB⟩ := hrel
  cases gk with
  | zero => exact absurd HA.out (by simp [tree_Up.l0])
  | succ k1 =>
   have H := HA.out
   clear HA
   simp only [tree_Up.l0] at H
   by_cases c5 : x6_1 ≥ 0
   ·rw [if_pos c5] at H
    have c5b0 : decide (0 ≤ x6_1) = true := decide_eq_true c5
    clear c5
    by_cases c6 : (x5_1.length : Int) ≤ (l0.length : Int)
    ·rw [if_pos c6] at H
     have c6b0 : decide ((x5_1.length : Int) ≤ (l0.length : Int)) = true := decide_eq_true c6
     have c6b1 : decide (x5_1.length ≤ l0.length) = true := decide_eq_true (Int.ofNat_le.mp c6)
     clear c6
     by_cases c7 : 0 ≤ x6_1
     ·rw [if_pos c7] at H
      have c7b0 : decide (0 ≤ x6_1) = true := decide_eq_true c7
      clear c7
      by_cases c8 : x6_1 < (l0.length : Int)
      ·rw [if_pos c8] at H
       have c8b0 : decide (x6_1 < (l0.length : Int)) = true := decide_eq_true c8
       clear c8
       by_cases c9 : x5_1.length < 8796093022208
       ·rw [if_pos c9] at H
        have LMc9 := Aside0.mk c9
        clear c9
        obtain ⟨y3, hy3⟩ : ∃ y_ : List ByteArray, y_ = (x5_1 ++ [(rd_T31 l0 x6_1).f0]) := ⟨_, rfl⟩
        replace H : ((tree_Find.f l0 ((rd_T31 l0 x6_1).f1)).bind fun t7 => (tree_Up.l0 k1 l0 y3 t7)) = some r := by first|(rw [hy3];with_reducible exact H)|(have H2_ := (Option.bind_some _ _).symm.trans H;rw [hy3];with_reducible exact H2_)|(have H2_ := (Option.bind_some _ _).symm.trans H;with_reducible exact H2_)|with_reducible exact H|(rw [hy3];exact H)|exact H
        have Ny3 := Aside0.mk hy3
        clear hy3
        replace H := Option.bind_eq_some_iff.mp H
        obtain ⟨t7, A100, H⟩ := H
        replace H : (tree_Up.l0 k1 l0 y3 t7) = some r := H
        have A10 := Aside0.mk A100
        clear A100
        have H' := Aside0.mk H
        clear H
        obtain ⟨Ao11, co11, eo11⟩ := Kd.R_slice HO_5.out
        subst eo11
        have p2 : 0 ≤ (x6_1 : Int) := of_decide_eq_true (by first|(with_reducible assumption)|assumption)
        have q2 : x6_1 < (l0.length : Int) := of_decide_eq_true (by first|(with_reducible assumption)|assumption)
        obtain ⟨ad2, e2, hx2_0, hx2_1, hx2_2, hx2_3, hx2_4, hx2_5, hx2_6, hx2_7, hx2_8, hx2_9, hx2_10, hx2_11⟩ := at_T31 HR0.out x6_1 p2 q2
        cases e2
        replace hx2_0 := (HB.out.cell (World.block_lt_of_cell? w _ hx2_0)).trans hx2_0
        replace hx2_1 := (HB.out.cell (World.block_lt_of_cell? w _ hx2_1)).trans hx2_1
        replace hx2_2 := (HB.out.cell (World.block_lt_of_cell? w _ hx2_2)).trans hx2_2
        replace hx2_3 := (HB.out.cell (World.block_lt_of_cell? w _ hx2_3)).trans hx2_3
        replace hx2_4 := (HB.out.cell (World.block_lt_of_cell? w _ hx2_4)).trans hx2_4
        replace hx2_5 := (HB.out.cell (World.block_lt_of_cell? w _ hx2_5)).trans hx2_5
        replace hx2_6 := (HB.out.cell (World.block_lt_of_cell? w _ hx2_6)).trans hx2_6
        replace hx2_7 := (HB.out.cell (World.block_lt_of_cell? w _ hx2_7)).trans hx2_7
        replace hx2_8 := (HB.out.cell (World.block_lt_of_cell? w _ hx2_8)).trans hx2_8
        replace hx2_9 := (HB.out.cell (World.block_lt_of_cell? w _ hx2_9)).trans hx2_9
        replace hx2_10 := (HB.out.cell (World.block_lt_of_cell? w _ hx2_10)).trans hx2_10
        replace hx2_11 := (HB.out.cell (World.block_lt_of_cell? w _ hx2_11)).trans hx2_11
        replace p2 := eq_true p2
        replace q2 := eq_true q2
        go_wp2_with (first|((with_reducible refine gate_builtin (b := .append) (xs := #[.tmp 26, .tmp 32]) rfl ?_);(try (refine gate_guard (by rfl) ?_;dsimp only));at_builtin;refine Kd.R_append Kd.string (w0 := w) w.heap.size rfl (.tmp 26) (.tmp 32) 74 9 (.string ⟨#[]⟩) 16 rfl Try.underlying74 info9 rfl (by decide) (by omega) (.slice Ao11 x5_1.length co11) x5_1 ((rd_T31 l0 x6_1).f0) [.string ((rd_T31 l0 x6_1).f0)] (fun _ => True) (fun _ => False) rfl rfl ?aP (fun _ hk => hk.elim) ?aF ?aO ?aB ?aS ?aL ?_;(case aP => exact rfl);(case aB => exact (by repeat (first|(with_reducible first|exact HB.out|apply below_alloc|apply pw_below_drewN|apply below_drew1)|exact HB.out)));(case aF => exact (fun _ _ => trivial));(case aO => exact (by (with_reducible repeat (first|apply Kd.R_alloc|apply Kd.R_drewN|apply Kd.R_drew));exact HO_5.out));(case aS => exact (below_size (by repeat (first|(with_reducible first|exact HB.out|apply below_alloc|apply pw_below_drewN|apply below_drew1)|exact HB.out))));(case aL => have := LMc9.out;omega);intro v4 w12 ho hb hg hat;rw [← Ny3.out] at ho;have n0_ := Aside0.mk (hb);have n1_ := Aside0.mk (ho);clear HB;clear HO_5;have HB := n0_;have HO5 := n1_;clear n0_ n1_;clear ho hb hg hat;have p6 : 0 ≤ (x6_1 : Int) := of_decide_eq_true (by first|(with_reducible assumption)|assumption);have q6 : x6_1 < (l0.length : Int) := of_decide_eq_true (by first|(with_reducible assumption)|assumption);obtain ⟨ad6, e6, hx6_0, hx6_1, hx6_2, hx6_3, hx6_4, hx6_5, hx6_6, hx6_7, hx6_8, hx6_9, hx6_10, hx6_11⟩ := at_T31 HR0.out x6_1 p6 q6;obtain rfl : ad2 = ad6 := (by injection e6);replace hx6_0 := (HB.out.cell (World.block_lt_of_cell? w _ hx6_0)).trans hx6_0;replace hx6_1 := (HB.out.cell (World.block_lt_of_cell? w _ hx6_1)).trans hx6_1;replace hx6_2 := (HB.out.cell (World.block_lt_of_cell? w _ hx6_2)).trans hx6_2;replace hx6_3 := (HB.out.cell (World.block_lt_of_cell? w _ hx6_3)).trans hx6_3;replace hx6_4 := (HB.out.cell (World.block_lt_of_cell? w _ hx6_4)).trans hx6_4;replace hx6_5 := (HB.out.cell (World.block_lt_of_cell? w _ hx6_5)).trans hx6_5;replace hx6_6 := (HB.out.cell (World.block_lt_of_cell? w _ hx6_6)).trans hx6_6;replace hx6_7 := (HB.out.cell (World.block_lt_of_cell? w _ hx6_7)).trans hx6_7;replace hx6_8 := (HB.out.cell (World.block_lt_of_cell? w _ hx6_8)).trans hx6_8;replace hx6_9 := (HB.out.cell (World.block_lt_of_cell? w _ hx6_9)).trans hx6_9;replace hx6_10 := (HB.out.cell (World.block_lt_of_cell? w _ hx6_10)).trans hx6_10;replace hx6_11 := (HB.out.cell (World.block_lt_of_cell? w _ hx6_11)).trans hx6_11;replace p6 := eq_true p6;replace q6 := eq_true q6)|((with_reducible refine gate_callee (f := 71) rfl ?_);refine goesL_ (some 25) rfl rfl Try.func71 (by kernel_rfl) rfl #[.slice (some ad2) l0.length c0, .string ((rd_T31 l0 x6_1).f1)] rfl (by (try simp only [List.map_toArray, List.map_cons, List.map_nil]);first|done|rfl|(simp only [List.length_drop, List.length_take];rfl)) ?_;(with_reducible refine (tree_Find.calls _ _ l0 ((rd_T31 l0 x6_1).f1) t7 _ ?side1 ?side2 A10.out).mono ?_);(case side1 => repeat (first|exact (Kd.C_below HR0.out HB.out)|(with_reducible refine Kd.C_alloc ?_ _)|(with_reducible refine Kd.C_drewN ?_ _)|(with_reducible refine Kd.C_drew ?_)));(case side2 => exact HC0.out);rintro e w13 ⟨rfl, hb⟩;refine ⟨_, rfl, ?_⟩;have n0_ := Aside0.mk (Kd.R_below (by (with_reducible repeat (first|apply Kd.R_alloc|apply Kd.R_drewN|apply Kd.R_drew));exact HO5.out) hb);have n1_ := Aside0.mk (below_step (by repeat (first|(with_reducible first|exact HB.out|apply below_alloc|apply pw_below_drewN|apply below_drew1)|exact HB.out)) hb);clear HO5;clear HB;have HO5 := n0_;have HB := n1_;clear n0_ n1_;(try clear hb);(try clear hb2);(try clear hk);(try clear hi)))
        go_roundg k1
        case measure => have := HK1.out; omega
        case rel => exact ⟨(y3), (t7), (by first|rfl|(simp;done)|(simp [*];done)), H', ⟨by have := HK1.out;omega⟩, ⟨by (with_reducible repeat (first|apply Kd.R_alloc|apply Kd.R_drewN|apply Kd.R_drew));exact HO5.out⟩, ⟨by repeat (first|(with_reducible first|exact HB.out|apply below_alloc|apply pw_below_drewN|apply below_drew1)|exact HB.out)⟩⟩
       ·rw [if_neg c9] at H
        exact absurd H (by simp)
      ·rw [if_neg c8] at H
       exact absurd H (by simp)
     ·rw [if_neg c7] at H
      exact absurd H (by simp)
    ·rw [if_neg c6] at H
     have c6b0 : decide ((x5_1.length : Int) ≤ (l0.length : Int)) = false := decide_eq_false c6
     have c6b1 : decide (x5_1.length ≤ l0.length) = false := decide_eq_false (fun h => c6 (Int.ofNat_le.mpr h))
     clear c6
     obtain rfl := Option.some.inj H
     obtain ⟨Ao14, co14, eo14⟩ := Kd.R_slice HO_5.out
     subst eo14
     go_wp2
     go_ret
     exact ⟨_, by first|rfl|(simp [errW_none, errW_some] <;> rfl)|(simp [*, errW_none, errW_some] <;> rfl), by (with_reducible repeat (first|apply Kd.R_alloc|apply Kd.R_drewN|apply Kd.R_drew));exact HO_5.out, by repeat (first|(with_reducible first|exact HB.out|apply below_alloc|apply pw_below_drewN|apply below_drew1)|exact HB.out)⟩
   ·rw [if_neg c5] at H
    have c5b0 : decide (0 ≤ x6_1) = false := decide_eq_false c5
    clear c5
    obtain rfl := Option.some.inj H
    go_wp2
    go_ret
    exact ⟨_, by first|rfl|(simp [errW_none, errW_some] <;> rfl)|(simp [*, errW_none, errW_some] <;> rfl), by (with_reducible repeat (first|apply Kd.R_alloc|apply Kd.R_drewN|apply Kd.R_drew));exact HO_5.out, by repeat (first|(with_reducible first|exact HB.out|apply below_alloc|apply pw_below_drewN|apply below_drew1)|exact HB.out)⟩
end Go.Proofs.Ytcgefpklljclgaa.Print

namespace Go.Proofs.Ytcgefpklljclgaa.Print
open Go.RowKit Go.Proofs.YtcgefpklljclgaaW.PrintWords Go.Proofs.YtcgefpklljclgaaW.PrintLast Go.Proofs.YtcgefpklljclgaaW.PrintMore
attribute [local go_sem] max2_int min2_int max_two min_two max_three min_three max_four min_four   -- for this text's walks alone
set_option linter.unusedVariables false
set_option linter.unusedSimpArgs false
/-! ### room_along: function 156 -/
def room_along.l0 : Nat → List (S31) → List ByteArray → Int → Int → List (S31) → Option ((List (S31)))
 | 0, _, _, _, _, _ => none
 | k + 1, x0, x10, x11, x12, x3000 => if x12 < x11 then (if 0 ≤ x12 then (if x12 < (x10.length : Int) then ((tree_Find.f x0 (rdOf ByteArray.empty x10 x12)).bind fun t7 => (if 0 ≤ t7 then (if t7 < (x0.length : Int) then (if x3000.length < 1256584717458 then (room_along.l0 k x0 x10 x11 (wrap64 (x12 + 1)) (x3000 ++ [(⟨(rd_T31 x0 t7).f0, (rd_T31 x0 t7).f1, (⟨(rd_T31 x0 t7).f2.f0, (rd_T31 x0 t7).f2.f1, (rd_T31 x0 t7).f2.f2⟩ : S27), (⟨(rd_T31 x0 t7).f3.f0, (rd_T31 x0 t7).f3.f1, (rd_T31 x0 t7).f3.f2⟩ : S27), (⟨(rd_T31 x0 t7).f4.f0, (rd_T31 x0 t7).f4.f1, (rd_T31 x0 t7).f4.f2⟩ : S27), (rd_T31 x0 t7).f5⟩ : S31)])) else (none)) else (none)) else (none))) else (none)) else (none)) else (some x3000)
def room_along.f (k : Nat) (l0 : List (S31)) (a1 : ByteArray) : Option ((List (S31))) := (tree_Up.f k l0 a1).bind fun t3 => (room_along.l0 k l0 t3 (t3.length : Int) 0 ([] : List (S31)))
theorem room_along.mono_l : ∀ k, (∀ y0 y1 y2 y3 y4, LeO (room_along.l0 k y0 y1 y2 y3 y4) (room_along.l0 (k + 1) y0 y1 y2 y3 y4))
 | 0 => fun _ _ _ _ _ r h => by simp [room_along.l0] at h
 | k + 1 => by
  have ih0 := room_along.mono_l k
  ·intro y0 y1 y2 y3 y4
   unfold room_along.l0
   repeat' first
   | (with_reducible exact ih0 _ _ _ _ _)
   | (with_reducible exact tree_Up.mono _ _ _)
   | (with_reducible exact LeO.refl _)
   | (with_reducible exact LeO.none _)
   | (with_reducible refine LeO.ite ?_ ?_)
   | (with_reducible refine LeO.bind ?_ (fun _ => ?_))
   | exact ih0 _ _ _ _ _
   | exact tree_Up.mono _ _ _
   | exact LeO.none _
   | refine LeO.ite ?_ ?_
   | refine LeO.bind ?_ (fun _ => ?_)
theorem room_along.mono : ∀ a0 a1 k, LeO (room_along.f k a0 a1) (room_along.f (k + 1) a0 a1) := by
 intro a0 a1 k
 have ih0 := room_along.mono_l k
 unfold room_along.f
 repeat' first
   | (with_reducible exact ih0 _ _ _ _ _)
   | (with_reducible exact tree_Up.mono _ _ _)
   | (with_reducible exact LeO.refl _)
   | (with_reducible exact LeO.none _)
   | (with_reducible refine LeO.ite ?_ ?_)
   | (with_reducible refine LeO.bind ?_ (fun _ => ?_))
   | exact ih0 _ _ _ _ _
   | exact tree_Up.mono _ _ _
   | exact LeO.none _
   | refine LeO.ite ?_ ?_
   | refine LeO.bind ?_ (fun _ => ?_)
def room_along.T5 : Bool × List (List Nat × List Nat) := (true, [([], []), ([0], [0]), ([], []), ([], []), ([], []), ([3, 4], [3, 4]), ([2, 5], [2, 5]), ([6], [6]), ([7], [7]), ([1, 8, 5], [1, 8]), ([0, 1, 2, 3, 4, 5, 6, 7, 8, 9], []), ([10, 9, 9, 0, 1, 2, 3, 4, 5, 6, 7, 8, 9], [9, 10])])
def room_along.B5 : List Nat := [0, 1, 0, 0, 0, 24, 60, 124, 252, 511, 1023, 2047]
theorem room_along.tab5 : rtab .any (opsOf Try.f156 5) = room_along.T5 := by kernel_rfl
theorem room_along.bits5 : waitsOk room_along.T5.2 room_along.B5 = true := by kernel_rfl
set_option maxHeartbeats 8000000 in
set_option maxRecDepth 100000 in
theorem room_along.calls (k : Nat) (A0 : Option Addr) (c0 : Nat) (l0 : List (S31)) (a1 : ByteArray) (r : List (S31)) (w : World) (hr0 : Kd.C k31 w A0 l0.length l0) (hc0 : l0.length ≤ c0) (h : room_along.f k l0 a1 = some r) :
  Calls Try.prog 156 #[.slice A0 l0.length c0, .string a1] w fun e w' => ∃ v0_ : Value, e = .returned (.agg #[v0_]) ∧ Kd.R k31 31 w' w.heap.size (fun _ => True) v0_ r ∧ Below w.heap.size w w' := by
 have hu125 := Try.underlying125
 have hu31 := Try.underlying31
 have HR0 := Aside0.mk hr0
 have HC0 := Aside0.mk hc0
 clear hr0 hc0
 have HB := Aside0.mk (Below.refl w.heap.size w)
 have H : ((tree_Up.f k l0 a1).bind fun t3 => (room_along.l0 k l0 t3 (t3.length : Int) 0 ([] : List (S31)))) = some r := h
 clear h
 replace H := Option.bind_eq_some_iff.mp H
 obtain ⟨t3, A30, H⟩ := H
 replace H : (room_along.l0 k l0 t3 (t3.length : Int) 0 ([] : List (S31))) = some r := H
 have A3 := Aside0.mk A30
 clear A30
 have H' := Aside0.mk H
 clear H
 go_enter Try.func156, Try.ntmps156
 go_wp2_with (first|((with_reducible refine gate_dst (N := 4) rfl ?_);refine box_event ?hg (N := 4) ?hd (cs := #[.slice none 0 0]) (t := 125) ?hr ?_;(case hd => rfl);(case hg => rfl);(case hr => first|(go_simp;done)|(go_simp;rfl));intro gb1 hg w4 hbox hb;have n0_ := Aside0.mk (below_step (by repeat (first|(with_reducible first|exact HB.out|apply below_alloc|apply pw_below_drewN|apply below_drew1)|exact HB.out)) hb);have n1_ := Aside0.mk (hbox);have n2_ := Aside0.mk ((by rw [hg];exact (below_size (by repeat (first|(with_reducible first|exact HB.out|apply below_alloc|apply pw_below_drewN|apply below_drew1)|exact HB.out))) : w.heap.size ≤ gb1));have n3_ := Aside0.mk ((by rw [hg];exact (below_size (by repeat (first|(with_reducible first|exact HB.out|apply below_alloc|apply pw_below_drewN|apply below_drew1)|exact HB.out))) : w.heap.size ≤ gb1));clear HB;have HB := n0_;have BK1 := n1_;have GW1 := n2_;have GE1 := n3_;clear n0_ n1_ n2_ n3_;clear hb hbox hg)|((with_reducible refine gate_dst (N := 5) rfl ?_);refine box_event ?hg (N := 5) ?hd (cs := #[.slice none 0 0]) (t := 125) ?hr ?_;(case hd => rfl);(case hg => rfl);(case hr => first|(go_simp;done)|(go_simp;rfl));intro gb2 hg w5 hbox hb;have n0_ := Aside0.mk (blk_below (g := gb1) (o := .cells #[.slice none 0 0] 125 (0, 0)) (by (with_reducible repeat (first|refine blk_drewN ?_ _|refine blk_drew ?_|refine blk_alloc ?_ _));exact BK1.out) hb);have n1_ := Aside0.mk (below_step (by repeat (first|(with_reducible first|exact HB.out|apply below_alloc|apply pw_below_drewN|apply below_drew1|refine below_set ?_ GE1.out)|exact HB.out)) hb);have n2_ := Aside0.mk (hbox);have n3_ := Aside0.mk ((by rw [hg];exact (below_size (by repeat (first|(with_reducible first|exact HB.out|apply below_alloc|apply pw_below_drewN|apply below_drew1|refine below_set ?_ GE1.out)|exact HB.out))) : w.heap.size ≤ gb2));have n4_ := Aside0.mk ((by rw [hg];exact (below_size (by repeat (first|(with_reducible first|exact HB.out|apply below_alloc|apply pw_below_drewN|apply below_drew1|refine below_set ?_ GE1.out)|exact HB.out))) : w.heap.size ≤ gb2));have n5_ := Aside0.mk ((by rw [hg];exact Nat.ne_of_lt (blk_lt (g := gb1) (o := .cells #[.slice none 0 0] 125 (0, 0)) (by (with_reducible repeat (first|refine blk_drewN ?_ _|refine blk_drew ?_|refine blk_alloc ?_ _));exact BK1.out)) : gb1 ≠ gb2));have n6_ := Aside0.mk ((by rw [hg];exact Nat.ne_of_gt (blk_lt (g := gb1) (o := .cells #[.slice none 0 0] 125 (0, 0)) (by (with_reducible repeat (first|refine blk_drewN ?_ _|refine blk_drew ?_|refine blk_alloc ?_ _));exact BK1.out)) : gb2 ≠ gb1));clear BK1;clear HB;have BK1 := n0_;have HB := n1_;have BK2 := n2_;have GW2 := n3_;have GE2 := n4_;have NB1_2 := n5_;have NB2_1 := n6_;clear n0_ n1_ n2_ n3_ n4_ n5_ n6_;clear hb hbox hg)|((with_reducible refine gate_callee (f := 70) rfl ?_);refine goesL_ (some 10) rfl rfl Try.func70 (by kernel_rfl) rfl #[.slice A0 l0.length c0, .string a1] rfl (by (try simp only [List.map_toArray, List.map_cons, List.map_nil]);first|done|rfl|(simp only [List.length_drop, List.length_take];rfl)) ?_;(with_reducible refine (tree_Up.calls k _ _ l0 a1 t3 _ ?side1 ?side2 A3.out).mono ?_);(case side1 => repeat (first|exact (Kd.C_below HR0.out HB.out)|(with_reducible refine Kd.C_alloc ?_ _)|(with_reducible refine Kd.C_drewN ?_ _)|(with_reducible refine Kd.C_drew ?_)));(case side2 => exact HC0.out);rintro e w6 ⟨v4, rfl, ho0, hb⟩;refine ⟨_, rfl, ?_⟩;have n0_ := Aside0.mk (Kd.R_lower ho0 (below_size (by repeat (first|(with_reducible first|exact HB.out|apply below_alloc|apply pw_below_drewN|apply below_drew1|refine below_set ?_ GE1.out|refine below_set ?_ GE2.out)|exact HB.out))));have n1_ := Aside0.mk (blk_below (g := gb1) (o := .cells #[.slice none 0 0] 125 (0, 0)) (by (with_reducible repeat (first|refine blk_drewN ?_ _|refine blk_drew ?_|refine blk_alloc ?_ _));exact BK1.out) hb);have n2_ := Aside0.mk (blk_below (g := gb2) (o := .cells #[.slice none 0 0] 125 (0, 0)) (by (with_reducible repeat (first|refine blk_drewN ?_ _|refine blk_drew ?_|refine blk_alloc ?_ _));exact BK2.out) hb);have n3_ := Aside0.mk (below_step (by repeat (first|(with_reducible first|exact HB.out|apply below_alloc|apply pw_below_drewN|apply below_drew1|refine below_set ?_ GE1.out|refine below_set ?_ GE2.out)|exact HB.out)) hb);clear BK1;clear BK2;clear HB;have HO5 := n0_;have BK1 := n1_;have BK2 := n2_;have HB := n3_;clear n0_ n1_ n2_ n3_;(try clear hb);(try clear hb2);(try clear hk);(try clear hi);(try clear ho0);obtain ⟨Ao7, co7, eo7⟩ := Kd.R_slice HO5.out;subst eo7))
 go_loopg [12] k (fun kq v12 w' => ∃ (x12_1 : Int) (x3000_1 : List (S31)) (u3000 : Value), v12 = .int .i64 x12_1 ∧ Aside0 (room_along.l0 kq l0 t3 (t3.length : Int) x12_1 x3000_1 = some r) ∧ Aside0 (kq ≤ k) ∧ Aside0 (Kd.R Kd.string 9 w' w.heap.size (fun _ => True) (.slice Ao7 t3.length co7) t3) ∧ Aside0 (Kd.R k31 31 w' w.heap.size (fun _ => True) u3000 x3000_1) ∧ Aside0 (w'.heap[gb1]? = some (.cells #[(.slice none 0 0)] 125 (0, 0))) ∧ Aside0 (w'.heap[gb2]? = some (.cells #[u3000] 125 (0, 0))) ∧ Aside0 (Below w.heap.size w w'))
 case atStart => exact ⟨(0), (([] : List (S31))), (.slice none 0 0), (by first|rfl|(simp;done)|(simp [*];done)), H', ⟨Nat.le_refl _⟩, ⟨by (with_reducible repeat (first|apply Kd.R_alloc|apply Kd.R_drewN|apply Kd.R_drew));exact HO5.out⟩, ⟨by first|exact Kd.R_nil _ _ _ _ _|exact Kd.N_nil _ _ _ _ _|exact Kd.V_nil _ _ _ _ _|exact Kd.Q_nil _ _ _ _ _|exact Kd.S_nil _ _ _ _ _⟩, ⟨by (with_reducible repeat (first|refine blk_drewN ?_ _|refine blk_drew ?_|refine blk_alloc ?_ _));exact BK1.out⟩, ⟨by (with_reducible repeat (first|refine blk_drewN ?_ _|refine blk_drew ?_|refine blk_alloc ?_ _));exact BK2.out⟩, ⟨by repeat (first|(with_reducible first|exact HB.out|apply below_alloc|apply pw_below_drewN|apply below_drew1|refine below_set ?_ GE1.out|refine below_set ?_ GE2.out)|exact HB.out)⟩⟩
 case round =>
  clear H'
  try clear c1
  try clear p2
  try clear c7
  obtain ⟨x12_1, x3000_1, u3000, rfl, HA, HK1, HO_10, HO_3000, BK1, BK2, HB⟩ := hrel
  cases gk with
  | zero => exact absurd HA.out (by simp [room_along.l0])
  | succ k1 =>
   have H := HA.out
   clear HA
   simp only [room_along.l0] at H
   by_cases c8 : x12_1 < (t3.length : Int)
   ·rw [if_pos c8] at H
    have c8b0 : decide (x12_1 < (t3.length : Int)) = true := decide_eq_true c8
    clear c8
    by_cases c9 : 0 ≤ x12_1
    ·rw [if_pos c9] at H
     have c9b0 : decide (0 ≤ x12_1) = true := decide_eq_true c9
     clear c9
     by_cases c10 : x12_1 < (t3.length : Int)
     ·rw [if_pos c10] at H
      have c10b0 : decide (x12_1 < (t3.length : Int)) = true := decide_eq_true c10
      clear c10
      replace H := Option.bind_eq_some_iff.mp H
      obtain ⟨t7, A110, H⟩ := H
      replace H : (if 0 ≤ t7 then (if t7 < (l0.length : Int) then (if x3000_1.length < 1256584717458 then (room_along.l0 k1 l0 t3 (t3.length : Int) (wrap64 (x12_1 + 1)) (x3000_1 ++ [(⟨(rd_T31 l0 t7).f0, (rd_T31 l0 t7).f1, (⟨(rd_T31 l0 t7).f2.f0, (rd_T31 l0 t7).f2.f1, (rd_T31 l0 t7).f2.f2⟩ : S27), (⟨(rd_T31 l0 t7).f3.f0, (rd_T31 l0 t7).f3.f1, (rd_T31 l0 t7).f3.f2⟩ : S27), (⟨(rd_T31 l0 t7).f4.f0, (rd_T31 l0 t7).f4.f1, (rd_T31 l0 t7).f4.f2⟩ : S27), (rd_T31 l0 t7).f5⟩ : S31)])) else (none)) else (none)) else (none)) = some r := H
      have A11 := Aside0.mk A110
      clear A110
      by_cases c12 : 0 ≤ t7
      ·rw [if_pos c12] at H
       have c12b0 : decide (0 ≤ t7) = true := decide_eq_true c12
       clear c12
       by_cases c13 : t7 < (l0.length : Int)
       ·rw [if_pos c13] at H
        have c13b0 : decide (t7 < (l0.length : Int)) = true := decide_eq_true c13
        clear c13
        by_cases c14 : x3000_1.length < 1256584717458
        ·rw [if_pos c14] at H
         have LMc14 := Aside0.mk c14
         clear c14
         obtain ⟨y9, hy9⟩ : ∃ y_ : List (S31), y_ = (x3000_1 ++ [(⟨(rd_T31 l0 t7).f0, (rd_T31 l0 t7).f1, (⟨(rd_T31 l0 t7).f2.f0, (rd_T31 l0 t7).f2.f1, (rd_T31 l0 t7).f2.f2⟩ : S27), (⟨(rd_T31 l0 t7).f3.f0, (rd_T31 l0 t7).f3.f1, (rd_T31 l0 t7).f3.f2⟩ : S27), (⟨(rd_T31 l0 t7).f4.f0, (rd_T31 l0 t7).f4.f1, (rd_T31 l0 t7).f4.f2⟩ : S27), (rd_T31 l0 t7).f5⟩ : S31)]) := ⟨_, rfl⟩
         replace H : (room_along.l0 k1 l0 t3 (t3.length : Int) (wrap64 (x12_1 + 1)) y9) = some r := by first|(rw [hy9];with_reducible exact H)|(have H2_ := (Option.bind_some _ _).symm.trans H;rw [hy9];with_reducible exact H2_)|(have H2_ := (Option.bind_some _ _).symm.trans H;with_reducible exact H2_)|with_reducible exact H|(rw [hy9];exact H)|exact H
         have Ny9 := Aside0.mk hy9
         clear hy9
         have H' := Aside0.mk H
         clear H
         have p6 : 0 ≤ (x12_1 : Int) := of_decide_eq_true (by first|(with_reducible assumption)|assumption)
         have q6 : x12_1 < (t3.length : Int) := of_decide_eq_true (by first|(with_reducible assumption)|assumption)
         obtain ⟨ad6, e6, hx6_0⟩ := Kd.at_string (Kd.R_reads' HO_10.out).2.2 x12_1 p6 q6
         cases e6
         replace p6 := eq_true p6
         replace q6 := eq_true q6
         try go_wp2
         have n0_ := Aside0.mk (Kd.R_drew HO_10.out)
         have n1_ := Aside0.mk (Kd.R_drew HO_3000.out)
         have n2_ := Aside0.mk (blk_drew BK1.out)
         have n3_ := Aside0.mk (blk_drew BK2.out)
         have n4_ := Aside0.mk (below_drew1 HB.out)
         clear HO_10
         clear HO_3000
         clear BK1
         clear BK2
         clear HB
         have HO_10 := n0_
         have HO_3000 := n1_
         have BK1 := n2_
         have BK2 := n3_
         have HB := n4_
         clear n0_ n1_ n2_ n3_ n4_
         have p8 : 0 ≤ (t7 : Int) := of_decide_eq_true (by first|(with_reducible assumption)|assumption)
         have q8 : t7 < (l0.length : Int) := of_decide_eq_true (by first|(with_reducible assumption)|assumption)
         obtain ⟨ad8, e8, hx8_0, hx8_1, hx8_2, hx8_3, hx8_4, hx8_5, hx8_6, hx8_7, hx8_8, hx8_9, hx8_10, hx8_11⟩ := at_T31 HR0.out t7 p8 q8
         have hw8_11 := hx8_11
         have hw8_10 := hx8_10
         have hw8_9 := hx8_9
         have hw8_8 := hx8_8
         have hw8_7 := hx8_7
         have hw8_6 := hx8_6
         have hw8_5 := hx8_5
         have hw8_4 := hx8_4
         have hw8_3 := hx8_3
         have hw8_2 := hx8_2
         have hw8_1 := hx8_1
         have hw8_0 := hx8_0
         cases e8
         replace hx8_0 := (HB.out.cell (World.block_lt_of_cell? w _ hx8_0)).trans hx8_0
         replace hx8_1 := (HB.out.cell (World.block_lt_of_cell? w _ hx8_1)).trans hx8_1
         replace hx8_2 := (HB.out.cell (World.block_lt_of_cell? w _ hx8_2)).trans hx8_2
         replace hx8_3 := (HB.out.cell (World.block_lt_of_cell? w _ hx8_3)).trans hx8_3
         replace hx8_4 := (HB.out.cell (World.block_lt_of_cell? w _ hx8_4)).trans hx8_4
         replace hx8_5 := (HB.out.cell (World.block_lt_of_cell? w _ hx8_5)).trans hx8_5
         replace hx8_6 := (HB.out.cell (World.block_lt_of_cell? w _ hx8_6)).trans hx8_6
         replace hx8_7 := (HB.out.cell (World.block_lt_of_cell? w _ hx8_7)).trans hx8_7
         replace hx8_8 := (HB.out.cell (World.block_lt_of_cell? w _ hx8_8)).trans hx8_8
         replace hx8_9 := (HB.out.cell (World.block_lt_of_cell? w _ hx8_9)).trans hx8_9
         replace hx8_10 := (HB.out.cell (World.block_lt_of_cell? w _ hx8_10)).trans hx8_10
         replace hx8_11 := (HB.out.cell (World.block_lt_of_cell? w _ hx8_11)).trans hx8_11
         replace p8 := eq_true p8
         replace q8 := eq_true q8
         refine start_ (n := 12) (S := fun w' => w'.cell? ⟨gb2, 0, none⟩ = some (u3000) ∧ w'.cell? (ad8.add ((t7).toNat * 12)) = some (.string ((rd_T31 l0 t7).f0)) ∧ w'.cell? ⟨(ad8.add ((t7).toNat * 12)).block, (ad8.add ((t7).toNat * 12)).off + 1, none⟩ = some (.string ((rd_T31 l0 t7).f1)) ∧ w'.cell? ⟨(ad8.add ((t7).toNat * 12)).block, (ad8.add ((t7).toNat * 12)).off + 2, none⟩ = some (.int .i64 ((rd_T31 l0 t7).f2.f0)) ∧ w'.cell? ⟨(ad8.add ((t7).toNat * 12)).block, (ad8.add ((t7).toNat * 12)).off + 3, none⟩ = some (.int .i64 ((rd_T31 l0 t7).f2.f1)) ∧ w'.cell? ⟨(ad8.add ((t7).toNat * 12)).block, (ad8.add ((t7).toNat * 12)).off + 4, none⟩ = some (.int .i64 ((rd_T31 l0 t7).f2.f2)) ∧ w'.cell? ⟨(ad8.add ((t7).toNat * 12)).block, (ad8.add ((t7).toNat * 12)).off + 5, none⟩ = some (.int .i64 ((rd_T31 l0 t7).f3.f0)) ∧ w'.cell? ⟨(ad8.add ((t7).toNat * 12)).block, (ad8.add ((t7).toNat * 12)).off + 6, none⟩ = some (.int .i64 ((rd_T31 l0 t7).f3.f1)) ∧ w'.cell? ⟨(ad8.add ((t7).toNat * 12)).block, (ad8.add ((t7).toNat * 12)).off + 7, none⟩ = some (.int .i64 ((rd_T31 l0 t7).f3.f2)) ∧ w'.cell? ⟨(ad8.add ((t7).toNat * 12)).block, (ad8.add ((t7).toNat * 12)).off + 8, none⟩ = some (.int .i64 ((rd_T31 l0 t7).f4.f0)) ∧ w'.cell? ⟨(ad8.add ((t7).toNat * 12)).block, (ad8.add ((t7).toNat * 12)).off + 9, none⟩ = some (.int .i64 ((rd_T31 l0 t7).f4.f1)) ∧ w'.cell? ⟨(ad8.add ((t7).toNat * 12)).block, (ad8.add ((t7).toNat * 12)).off + 10, none⟩ = some (.int .i64 ((rd_T31 l0 t7).f4.f2)) ∧ w'.cell? ⟨(ad8.add ((t7).toNat * 12)).block, (ad8.add ((t7).toNat * 12)).off + 11, none⟩ = some (.int .i64 ((rd_T31 l0 t7).f5))) (ds := [11]) #[false, false, false, false, false, false, false, false, false, false, false, false] (by kernel_rfl) rfl rfl ⟨(blk_cell BK2.out 0).trans rfl, ((HB.out.cell (World.block_lt_of_cell? w _ hw8_0)).trans hw8_0), ((HB.out.cell (World.block_lt_of_cell? w _ hw8_1)).trans hw8_1), ((HB.out.cell (World.block_lt_of_cell? w _ hw8_2)).trans hw8_2), ((HB.out.cell (World.block_lt_of_cell? w _ hw8_3)).trans hw8_3), ((HB.out.cell (World.block_lt_of_cell? w _ hw8_4)).trans hw8_4), ((HB.out.cell (World.block_lt_of_cell? w _ hw8_5)).trans hw8_5), ((HB.out.cell (World.block_lt_of_cell? w _ hw8_6)).trans hw8_6), ((HB.out.cell (World.block_lt_of_cell? w _ hw8_7)).trans hw8_7), ((HB.out.cell (World.block_lt_of_cell? w _ hw8_8)).trans hw8_8), ((HB.out.cell (World.block_lt_of_cell? w _ hw8_9)).trans hw8_9), ((HB.out.cell (World.block_lt_of_cell? w _ hw8_10)).trans hw8_10), ((HB.out.cell (World.block_lt_of_cell? w _ hw8_11)).trans hw8_11)⟩ (fun hHeld => ?_); refine with_tabW room_along.tab5 room_along.bits5 (fun HT_ HW_ => ?_)
         generalize wr.drew = w15 at HO_10 HO_3000 BK1 BK2 HB hx8_0 hx8_1 hx8_10 hx8_11 hx8_2 hx8_3 hx8_4 hx8_5 hx8_6 hx8_7 hx8_8 hx8_9 hHeld ⊢
         refine pure_ (i := 0) (N := some 16) (v := ?_) (a' := ?_) #[true, false, false, false, false, false, false, false, false, false, false, false] rfl rfl (any_of HT_.out (by kernel_rfl)) (fun _ _ _ h => h) (Or.inl ⟨by rfl, ?_⟩) ?_ ?_
         rotate_left
         ·intro w'
          go_simp
          with_reducible rfl
         rotate_left
         ·simp only [Act.put, List.setIfInBounds_toArray, List.set_cons_zero, List.set_cons_succ, i64_w, i32_w]
          rfl
         refine pure_ (i := 2) (N := some 18) (v := ?_) (a' := ?_) #[true, false, true, false, false, false, false, false, false, false, false, false] rfl rfl (any_of HT_.out (by kernel_rfl)) (fun _ _ _ h => h) (Or.inl ⟨by rfl, ?_⟩) ?_ ?_
         rotate_left
         ·intro w'
          go_simp
          with_reducible rfl
         rotate_left
         ·simp only [Act.put, List.setIfInBounds_toArray, List.set_cons_zero, List.set_cons_succ, i64_w, i32_w]
          rfl
         refine pure_ (i := 3) (N := some 19) (v := ?_) (a' := ?_) #[true, false, true, true, false, false, false, false, false, false, false, false] rfl rfl (any_of HT_.out (by kernel_rfl)) (fun _ _ _ h => h) (Or.inl ⟨by rfl, ?_⟩) ?_ ?_
         rotate_left
         ·intro w'
          go_simp
          with_reducible rfl
         rotate_left
         ·simp only [Act.put, List.setIfInBounds_toArray, List.set_cons_zero, List.set_cons_succ, i64_w, i32_w]
          rfl
         refine pure_ (i := 4) (N := some 20) (v := ?_) (a' := ?_) #[true, false, true, true, true, false, false, false, false, false, false, false] rfl rfl (any_of HT_.out (by kernel_rfl)) (fun _ _ _ h => h) (Or.inl ⟨by rfl, ?_⟩) ?_ ?_
         rotate_left
         ·intro w'
          go_simp
          with_reducible rfl
         rotate_left
         ·simp only [Act.put, List.setIfInBounds_toArray, List.set_cons_zero, List.set_cons_succ, i64_w, i32_w]
          rfl
         refine take_ (i := 1) (N := some 17) (v := ?_) (a' := ?_) #[true, true, true, true, true, false, false, false, false, false, false, false] rfl rfl (take_ofW HT_.out HW_.out (by kernel_rfl)) (fun _ _ _ h => h) (Or.inl ⟨by rfl, ?_⟩) hHeld ?_ ?_
         rotate_left
         ·rintro w' ⟨s0, s1, s2, s3, s4, s5, s6, s7, s8, s9, s10, s11, s12⟩
          go_simp
          with_reducible rfl
         rotate_left
         ·simp only [Act.put, List.setIfInBounds_toArray, List.set_cons_zero, List.set_cons_succ, i64_w, i32_w]
          rfl
         refine one_ (i := 5) (N := some 21) #[true, true, true, true, true, true, false, false, false, false, false, false] rfl rfl (one_of HT_.out (by kernel_rfl)) (by decide) (fun K hK => ?_)
         refine goes_ Try.func71 (by kernel_rfl) rfl #[.slice (some ad8) l0.length c0, .string (rdOf ByteArray.empty t3 x12_1)] (by rfl) rfl rfl (by (try simp only [List.map_toArray, List.map_cons, List.map_nil]); first | done | rfl | (simp only [List.length_drop, List.length_take]; rfl)) ?_
         with_reducible refine (tree_Find.calls _ _ l0 (rdOf ByteArray.empty t3 x12_1) t7 _ ?side1 ?side2 A11.out).mono ?_
         (case side1 => repeat (first|exact (Kd.C_below HR0.out HB.out)|(with_reducible refine Kd.C_alloc ?_ _)|(with_reducible refine Kd.C_drewN ?_ _)|(with_reducible refine Kd.C_drew ?_)))
         (case side2 => exact HC0.out)
         rintro e w16 ⟨rfl, hb⟩
         refine ⟨_, rfl, ?_⟩
         have n0_ := Aside0.mk (Kd.R_below (by (with_reducible repeat (first|apply Kd.R_alloc|apply Kd.R_drewN|apply Kd.R_drew));exact HO_10.out) hb)
         have n1_ := Aside0.mk (Kd.R_below (by (with_reducible repeat (first|apply Kd.R_alloc|apply Kd.R_drewN|apply Kd.R_drew));exact HO_3000.out) hb)
         have n2_ := Aside0.mk (blk_below (g := gb1) (o := .cells #[.slice none 0 0] 125 (0, 0)) (by (with_reducible repeat (first|refine blk_drewN ?_ _|refine blk_drew ?_|refine blk_alloc ?_ _));exact BK1.out) hb)
         have n3_ := Aside0.mk (blk_below (g := gb2) (o := .cells #[u3000] 125 (0, 0)) (by (with_reducible repeat (first|refine blk_drewN ?_ _|refine blk_drew ?_|refine blk_alloc ?_ _));exact BK2.out) hb)
         have n4_ := Aside0.mk (below_step (by repeat (first|(with_reducible first|exact HB.out|apply below_alloc|apply pw_below_drewN|apply below_drew1|refine below_set ?_ GE1.out|refine below_set ?_ GE2.out)|exact HB.out)) hb)
         clear HO_10
         clear HO_3000
         clear BK1
         clear BK2
         clear HB
         have HO_10 := n0_
         have HO_3000 := n1_
         have BK1 := n2_
         have BK2 := n3_
         have HB := n4_
         clear n0_ n1_ n2_ n3_ n4_
         (try clear hb)
         (try clear hb2)
         (try clear hk)
         (try clear hi)
         refine hK.out _ _ ⟨(blk_cell BK2.out 0).trans rfl, ((HB.out.cell (World.block_lt_of_cell? w _ hw8_0)).trans hw8_0), ((HB.out.cell (World.block_lt_of_cell? w _ hw8_1)).trans hw8_1), ((HB.out.cell (World.block_lt_of_cell? w _ hw8_2)).trans hw8_2), ((HB.out.cell (World.block_lt_of_cell? w _ hw8_3)).trans hw8_3), ((HB.out.cell (World.block_lt_of_cell? w _ hw8_4)).trans hw8_4), ((HB.out.cell (World.block_lt_of_cell? w _ hw8_5)).trans hw8_5), ((HB.out.cell (World.block_lt_of_cell? w _ hw8_6)).trans hw8_6), ((HB.out.cell (World.block_lt_of_cell? w _ hw8_7)).trans hw8_7), ((HB.out.cell (World.block_lt_of_cell? w _ hw8_8)).trans hw8_8), ((HB.out.cell (World.block_lt_of_cell? w _ hw8_9)).trans hw8_9), ((HB.out.cell (World.block_lt_of_cell? w _ hw8_10)).trans hw8_10), ((HB.out.cell (World.block_lt_of_cell? w _ hw8_11)).trans hw8_11)⟩ (fun hHeld => ?_)
         clear hK K
         refine norm_ (a' := ?_) ?_ ?_
         rotate_left
         ·show Act.put _ (some 21) _ = _
          simp only [Act.put, List.setIfInBounds_toArray, List.set_cons_zero, List.set_cons_succ, i64_w, i32_w]
          rfl
         refine pure_ (i := 6) (N := some 22) (v := ?_) (a' := ?_) #[true, true, true, true, true, true, true, false, false, false, false, false] rfl rfl (any_of HT_.out (by kernel_rfl)) (fun _ _ _ h => h) (Or.inl ⟨by rfl, ?_⟩) ?_ ?_
         rotate_left
         ·intro w'
          go_simp
          with_reducible rfl
         rotate_left
         ·simp only [Act.put, List.setIfInBounds_toArray, List.set_cons_zero, List.set_cons_succ, i64_w, i32_w]
          rfl
         refine take_ (i := 7) (N := some 23) (v := ?_) (a' := ?_) #[true, true, true, true, true, true, true, true, false, false, false, false] rfl rfl (take_ofW HT_.out HW_.out (by kernel_rfl)) (fun _ _ _ h => h) (Or.inl ⟨by rfl, ?_⟩) hHeld ?_ ?_
         rotate_left
         ·rintro w' ⟨s0, s1, s2, s3, s4, s5, s6, s7, s8, s9, s10, s11, s12⟩
          go_simp
          with_reducible rfl
         rotate_left
         ·simp only [Act.put, List.setIfInBounds_toArray, List.set_cons_zero, List.set_cons_succ, i64_w, i32_w]
          rfl
         refine one_ (i := 8) (N := some 24) #[true, true, true, true, true, true, true, true, true, false, false, false] rfl rfl (one_of HT_.out (by kernel_rfl)) (by decide) (fun K hK => ?_)
         refine value_ (w1 := ?_) (v := ?_) (by rfl) rfl ?_ ?_
         rotate_left 2
         ·go_simp
          constructor
          ·rfl
          ·rfl
         refine hK.out _ _ ⟨(blk_cell (blk_alloc BK2.out _) 0).trans rfl, (World.cell?_alloc_lt _ _ _ (World.block_lt_of_cell? _ _ (((HB.out.cell (World.block_lt_of_cell? w _ hw8_0)).trans hw8_0)))).trans (((HB.out.cell (World.block_lt_of_cell? w _ hw8_0)).trans hw8_0)), (World.cell?_alloc_lt _ _ _ (World.block_lt_of_cell? _ _ (((HB.out.cell (World.block_lt_of_cell? w _ hw8_1)).trans hw8_1)))).trans (((HB.out.cell (World.block_lt_of_cell? w _ hw8_1)).trans hw8_1)), (World.cell?_alloc_lt _ _ _ (World.block_lt_of_cell? _ _ (((HB.out.cell (World.block_lt_of_cell? w _ hw8_2)).trans hw8_2)))).trans (((HB.out.cell (World.block_lt_of_cell? w _ hw8_2)).trans hw8_2)), (World.cell?_alloc_lt _ _ _ (World.block_lt_of_cell? _ _ (((HB.out.cell (World.block_lt_of_cell? w _ hw8_3)).trans hw8_3)))).trans (((HB.out.cell (World.block_lt_of_cell? w _ hw8_3)).trans hw8_3)), (World.cell?_alloc_lt _ _ _ (World.block_lt_of_cell? _ _ (((HB.out.cell (World.block_lt_of_cell? w _ hw8_4)).trans hw8_4)))).trans (((HB.out.cell (World.block_lt_of_cell? w _ hw8_4)).trans hw8_4)), (World.cell?_alloc_lt _ _ _ (World.block_lt_of_cell? _ _ (((HB.out.cell (World.block_lt_of_cell? w _ hw8_5)).trans hw8_5)))).trans (((HB.out.cell (World.block_lt_of_cell? w _ hw8_5)).trans hw8_5)), (World.cell?_alloc_lt _ _ _ (World.block_lt_of_cell? _ _ (((HB.out.cell (World.block_lt_of_cell? w _ hw8_6)).trans hw8_6)))).trans (((HB.out.cell (World.block_lt_of_cell? w _ hw8_6)).trans hw8_6)), (World.cell?_alloc_lt _ _ _ (World.block_lt_of_cell? _ _ (((HB.out.cell (World.block_lt_of_cell? w _ hw8_7)).trans hw8_7)))).trans (((HB.out.cell (World.block_lt_of_cell? w _ hw8_7)).trans hw8_7)), (World.cell?_alloc_lt _ _ _ (World.block_lt_of_cell? _ _ (((HB.out.cell (World.block_lt_of_cell? w _ hw8_8)).trans hw8_8)))).trans (((HB.out.cell (World.block_lt_of_cell? w _ hw8_8)).trans hw8_8)), (World.cell?_alloc_lt _ _ _ (World.block_lt_of_cell? _ _ (((HB.out.cell (World.block_lt_of_cell? w _ hw8_9)).trans hw8_9)))).trans (((HB.out.cell (World.block_lt_of_cell? w _ hw8_9)).trans hw8_9)), (World.cell?_alloc_lt _ _ _ (World.block_lt_of_cell? _ _ (((HB.out.cell (World.block_lt_of_cell? w _ hw8_10)).trans hw8_10)))).trans (((HB.out.cell (World.block_lt_of_cell? w _ hw8_10)).trans hw8_10)), (World.cell?_alloc_lt _ _ _ (World.block_lt_of_cell? _ _ (((HB.out.cell (World.block_lt_of_cell? w _ hw8_11)).trans hw8_11)))).trans (((HB.out.cell (World.block_lt_of_cell? w _ hw8_11)).trans hw8_11))⟩ (fun hHeld => ?_)
         clear hK K
         refine norm_ (a' := ?_) ?_ ?_
         rotate_left
         ·show Act.put _ (some 24) _ = _
          simp only [Act.put, List.setIfInBounds_toArray, List.set_cons_zero, List.set_cons_succ, i64_w, i32_w]
          rfl
         refine one_ (i := 9) (N := some 25) #[true, true, true, true, true, true, true, true, true, true, false, false] rfl rfl (one_of HT_.out (by kernel_rfl)) (by decide) (fun K hK => ?_)
         refine Kd.R_append_step k31 (w0 := w) w.heap.size (by rfl) (.tmp 17) (.tmp 24) 24 31 (.agg #[(.string ⟨#[]⟩), (.string ⟨#[]⟩), (.int .i64 0), (.int .i64 0), (.int .i64 0), (.int .i64 0), (.int .i64 0), (.int .i64 0), (.int .i64 0), (.int .i64 0), (.int .i64 0), (.int .i64 0)]) 112 rfl Try.underlying24 info31 rfl (by decide) (by omega) u3000 x3000_1 (⟨(rd_T31 l0 t7).f0, (rd_T31 l0 t7).f1, (⟨(rd_T31 l0 t7).f2.f0, (rd_T31 l0 t7).f2.f1, (rd_T31 l0 t7).f2.f2⟩ : S27), (⟨(rd_T31 l0 t7).f3.f0, (rd_T31 l0 t7).f3.f1, (rd_T31 l0 t7).f3.f2⟩ : S27), (⟨(rd_T31 l0 t7).f4.f0, (rd_T31 l0 t7).f4.f1, (rd_T31 l0 t7).f4.f2⟩ : S27), (rd_T31 l0 t7).f5⟩ : S31) [.string ((rd_T31 l0 t7).f0), .string ((rd_T31 l0 t7).f1), .int .i64 ((rd_T31 l0 t7).f2.f0), .int .i64 ((rd_T31 l0 t7).f2.f1), .int .i64 ((rd_T31 l0 t7).f2.f2), .int .i64 ((rd_T31 l0 t7).f3.f0), .int .i64 ((rd_T31 l0 t7).f3.f1), .int .i64 ((rd_T31 l0 t7).f3.f2), .int .i64 ((rd_T31 l0 t7).f4.f0), .int .i64 ((rd_T31 l0 t7).f4.f1), .int .i64 ((rd_T31 l0 t7).f4.f2), .int .i64 ((rd_T31 l0 t7).f5)] (fun _ => True) (fun _ => False) rfl rfl ?aP (fun _ hk => hk.elim) ?aF ?aO ?aB ?aS ?aL ?_
         (case aP => exact k31_mkM _ _ _ (⟨(rd_T31 l0 t7).f0, (rd_T31 l0 t7).f1, (⟨(rd_T31 l0 t7).f2.f0, (rd_T31 l0 t7).f2.f1, (rd_T31 l0 t7).f2.f2⟩ : S27), (⟨(rd_T31 l0 t7).f3.f0, (rd_T31 l0 t7).f3.f1, (rd_T31 l0 t7).f3.f2⟩ : S27), (⟨(rd_T31 l0 t7).f4.f0, (rd_T31 l0 t7).f4.f1, (rd_T31 l0 t7).f4.f2⟩ : S27), (rd_T31 l0 t7).f5⟩ : S31))
         (case aB => exact (by repeat (first|(with_reducible first|exact HB.out|apply below_alloc|apply pw_below_drewN|apply below_drew1|refine below_set ?_ GE1.out|refine below_set ?_ GE2.out)|exact HB.out)))
         (case aF => exact (fun _ _ => trivial))
         (case aO => exact (by (with_reducible repeat (first|apply Kd.R_alloc|apply Kd.R_drewN|apply Kd.R_drew));exact HO_3000.out))
         (case aS => exact (below_size (by repeat (first|(with_reducible first|exact HB.out|apply below_alloc|apply pw_below_drewN|apply below_drew1|refine below_set ?_ GE1.out|refine below_set ?_ GE2.out)|exact HB.out))))
         (case aL => have := LMc14.out; omega)
         intro v10 w17 ho hb hg hat
         rw [← Ny9.out] at ho
         have n0_ := Aside0.mk (Kd.R_over' (by (with_reducible repeat (first|apply Kd.R_alloc|apply Kd.R_drewN|apply Kd.R_drew));exact HO_10.out) (Kd.R_typed (by (with_reducible repeat (first|apply Kd.R_alloc|apply Kd.R_drewN|apply Kd.R_drew));exact HO_3000.out)) (by decide) hg)
         have n1_ := Aside0.mk (blk_grown (g := gb1) (o := .cells #[.slice none 0 0] 125 (0, 0)) (by (with_reducible repeat (first|refine blk_drewN ?_ _|refine blk_drew ?_|refine blk_alloc ?_ _));exact BK1.out) hg (Kd.R_ne HO_3000.out BK1.out (by decide)))
         have n2_ := Aside0.mk (blk_grown (g := gb2) (o := .cells #[u3000] 125 (0, 0)) (by (with_reducible repeat (first|refine blk_drewN ?_ _|refine blk_drew ?_|refine blk_alloc ?_ _));exact BK2.out) hg (Kd.R_ne HO_3000.out BK2.out (by decide)))
         have n3_ := Aside0.mk (hb)
         have n4_ := Aside0.mk (ho)
         clear HO_10
         clear BK1
         clear BK2
         clear HB
         clear HO_3000
         have HO_10 := n0_
         have BK1 := n1_
         have BK2 := n2_
         have HB := n3_
         have HO11 := n4_
         clear n0_ n1_ n2_ n3_ n4_
         clear ho hb hg hat
         obtain ⟨Ao18, co18, eo18⟩ := Kd.R_slice HO11.out
         (first | subst eo18 | (injection eo18 with f1_ f2_ f3_; have f4_ := f1_.symm; have f5_ := f3_.symm; clear f1_ f2_ f3_; subst f4_; subst f5_))
         refine hK.out _ _ ⟨(blk_cell BK2.out 0).trans rfl, ((HB.out.cell (World.block_lt_of_cell? w _ hw8_0)).trans hw8_0), ((HB.out.cell (World.block_lt_of_cell? w _ hw8_1)).trans hw8_1), ((HB.out.cell (World.block_lt_of_cell? w _ hw8_2)).trans hw8_2), ((HB.out.cell (World.block_lt_of_cell? w _ hw8_3)).trans hw8_3), ((HB.out.cell (World.block_lt_of_cell? w _ hw8_4)).trans hw8_4), ((HB.out.cell (World.block_lt_of_cell? w _ hw8_5)).trans hw8_5), ((HB.out.cell (World.block_lt_of_cell? w _ hw8_6)).trans hw8_6), ((HB.out.cell (World.block_lt_of_cell? w _ hw8_7)).trans hw8_7), ((HB.out.cell (World.block_lt_of_cell? w _ hw8_8)).trans hw8_8), ((HB.out.cell (World.block_lt_of_cell? w _ hw8_9)).trans hw8_9), ((HB.out.cell (World.block_lt_of_cell? w _ hw8_10)).trans hw8_10), ((HB.out.cell (World.block_lt_of_cell? w _ hw8_11)).trans hw8_11)⟩ (fun hHeld => ?_)
         clear hK K
         refine norm_ (a' := ?_) ?_ ?_
         rotate_left
         ·show Act.put _ (some 25) _ = _
          simp only [Act.put, List.setIfInBounds_toArray, List.set_cons_zero, List.set_cons_succ, i64_w, i32_w]
          rfl
         refine pure_ (i := 10) (N := some 26) (v := ?_) (a' := ?_) #[true, true, true, true, true, true, true, true, true, true, true, false] rfl rfl (any_of HT_.out (by kernel_rfl)) (fun _ _ _ h => h) (Or.inl ⟨by rfl, ?_⟩) ?_ ?_
         rotate_left
         ·intro w'
          go_simp
          with_reducible rfl
         rotate_left
         ·simp only [Act.put, List.setIfInBounds_toArray, List.set_cons_zero, List.set_cons_succ, i64_w, i32_w]
          rfl
         refine last_ (i := 11) (N := none) #[true, true, true, true, true, true, true, true, true, true, true, true] rfl rfl (one_of HT_.out (by kernel_rfl)) (by decide) (fun K hK => ?_)
         have hs19 : w17.cell? ⟨gb2, 0, none⟩ = some (u3000) := (blk_cell BK2.out 0).trans rfl
         have hfs19 := blk_frozen BK2.out 0
         have hns19_0 := NB1_2.out
         have hms19_0 := NB2_1.out
         refine skip_ (w1 := ?_) (by rfl) rfl ?_ ?_
         rotate_left
         ·go_simp
          rfl
         refine hK.out _ _ ?_
         clear hK K
         refine done_ (done_of HT_.out (by kernel_rfl)) ?_
         try go_wp2
         go_roundg k1
         case measure => have := HK1.out; omega
         case rel => exact ⟨(wrap64 (x12_1 + 1)), (y9), (.slice Ao18 y9.length co18), (by first|rfl|(simp;done)|(simp [*];done)), H', ⟨by have := HK1.out;omega⟩, ⟨by (with_reducible repeat (first|apply Kd.R_alloc|apply Kd.R_drewN|apply Kd.R_drew));exact Kd.R_mono (Kd.R_far (p := ⟨gb2, 0, none⟩) (Kd.R_types HO_10.out BK2.out (by decide)) (fun _ hk => hk.2) (.slice Ao18 y9.length co18)) (fun _ hk => trivial)⟩, ⟨by (with_reducible repeat (first|apply Kd.R_alloc|apply Kd.R_drewN|apply Kd.R_drew));exact Kd.R_mono (Kd.R_far (p := ⟨gb2, 0, none⟩) (Kd.R_types HO11.out BK2.out (by decide)) (fun _ hk => hk.2) (.slice Ao18 y9.length co18)) (fun _ hk => trivial)⟩, ⟨by (with_reducible repeat (first|refine blk_drewN ?_ _|refine blk_drew ?_|refine blk_alloc ?_ _));refine blk_far ?_ NB1_2.out _;(with_reducible repeat (first|refine blk_drewN ?_ _|refine blk_drew ?_|refine blk_alloc ?_ _));exact BK1.out⟩, ⟨by (with_reducible repeat (first|refine blk_drewN ?_ _|refine blk_drew ?_|refine blk_alloc ?_ _));refine blk_put (cs := #[u3000]) ?_ 0 _ rfl;(with_reducible repeat (first|refine blk_drewN ?_ _|refine blk_drew ?_|refine blk_alloc ?_ _));exact BK2.out⟩, ⟨by repeat (first|(with_reducible first|exact HB.out|apply below_alloc|apply pw_below_drewN|apply below_drew1|refine below_set ?_ GE1.out|refine below_set ?_ GE2.out)|exact HB.out)⟩⟩
        ·rw [if_neg c14] at H
         exact absurd H (by simp)
       ·rw [if_neg c13] at H
        exact absurd H (by simp)
      ·rw [if_neg c12] at H
       exact absurd H (by simp)
     ·rw [if_neg c10] at H
      exact absurd H (by simp)
    ·rw [if_neg c9] at H
     exact absurd H (by simp)
   ·rw [if_neg c8] at H
    have c8b0 : decide (x12_1 < (t3.length : Int)) = false := decide_eq_false c8
    clear c8
    obtain rfl := Option.some.inj H
    have hnb20 := NB2_1.out
    have hnc20 := NB1_2.out
    have hcz21_0 : wr.cell? ⟨gb2, 0, none⟩ = some (u3000) := (blk_cell BK2.out 0).trans rfl
    have hfz21_0 := blk_frozen BK2.out 0
    obtain ⟨Ao22, co22, eo22⟩ := Kd.R_slice HO_3000.out
    subst eo22
    have hcz23_0 : wr.cell? ⟨gb1, 0, none⟩ = some (.slice none 0 0) := (blk_cell BK1.out 0).trans rfl
    have hfz23_0 := blk_frozen BK1.out 0
    go_wp2
    refine bodyPost_ret (results_cell_row rfl _ _ gb1 125 #[.slice Ao22 x3000_1.length co22] (0, 0) _ rfl (by (with_reducible repeat (first|refine blk_drewN ?_ _|refine blk_drew ?_|refine blk_alloc ?_ _));refine blk_put (cs := #[.slice none 0 0]) ?_ 0 _ rfl;(with_reducible repeat (first|refine blk_drewN ?_ _|refine blk_drew ?_|refine blk_alloc ?_ _));exact BK1.out) Try.underlying125 rfl (by kernel_rfl)) rfl ?_
    exact ⟨_, by first|rfl|(simp [errW_none, errW_some] <;> rfl)|(simp [*, errW_none, errW_some] <;> rfl), by (with_reducible repeat (first|apply Kd.R_alloc|apply Kd.R_drewN|apply Kd.R_drew));exact Kd.R_mono (Kd.R_far (p := ⟨gb1, 0, none⟩) (Kd.R_types HO_3000.out BK1.out (by decide)) (fun _ hk => hk.2) (.slice Ao22 x3000_1.length co22)) (fun _ hk => trivial), by repeat (first|(with_reducible first|exact HB.out|apply below_alloc|apply pw_below_drewN|apply below_drew1|refine below_set ?_ GE1.out|refine below_set ?_ GE2.out)|exact HB.out)⟩
end Go.Proofs.Ytcgefpklljclgaa.Print

namespace Go.Proofs.Ytcgefpklljclgaa.Print
open Go.RowKit Go.Proofs.YtcgefpklljclgaaW.PrintWords Go.Proofs.YtcgefpklljclgaaW.PrintLast Go.Proofs.YtcgefpklljclgaaW.PrintMore
attribute [local go_sem] max2_int min2_int max_two min_two max_three min_three max_four min_four   -- for this text's walks alone
set_option linter.unusedVariables false
set_option linter.unusedSimpArgs false
/-! ### vec_Most: function 157 -/
def vec_Most.f  : Option (Int × Int × Int) := some (1099511627776, 1099511627776, 1099511627776)
set_option maxHeartbeats 8000000 in
set_option maxRecDepth 100000 in
theorem vec_Most.calls  (r1 : Int) (r2 : Int) (r3 : Int) (w : World) (h : vec_Most.f  = some (r1, r2, r3)) :
  Calls Try.prog 157 #[] w fun e w' => e = .returned (.agg #[.int .i64 r1, .int .i64 r2, .int .i64 r3]) ∧ Below w.heap.size w w' := by
 have hu27 := Try.underlying27
 have HB := Aside0.mk (Below.refl w.heap.size w)
 have H : (some (1099511627776, 1099511627776, 1099511627776)) = some (r1, r2, r3) := h
 clear h
 simp only [Option.some.injEq, Prod.mk.injEq] at H
 obtain ⟨rfl, rfl, rfl⟩ := H
 go_enter Try.func157, Try.ntmps157
 go_wp2_with (first|((with_reducible refine gate_dst (N := 0) rfl ?_);refine box_event ?hg (N := 0) ?hd (cs := #[.int .i64 0, .int .i64 0, .int .i64 0]) (t := 27) ?hr ?_;(case hd => rfl);(case hg => rfl);(case hr => first|(go_simp;done)|(go_simp;rfl));intro gb1 hg w1 hbox hb;have n0_ := Aside0.mk (below_step (by repeat (first|(with_reducible first|exact HB.out|apply below_alloc|apply pw_below_drewN|apply below_drew1)|exact HB.out)) hb);have n1_ := Aside0.mk (hbox);have n2_ := Aside0.mk ((by rw [hg];exact (below_size (by repeat (first|(with_reducible first|exact HB.out|apply below_alloc|apply pw_below_drewN|apply below_drew1)|exact HB.out))) : w.heap.size ≤ gb1));have n3_ := Aside0.mk ((by rw [hg];exact (below_size (by repeat (first|(with_reducible first|exact HB.out|apply below_alloc|apply pw_below_drewN|apply below_drew1)|exact HB.out))) : w.heap.size ≤ gb1));clear HB;have HB := n0_;have BK1 := n1_;have GW1 := n2_;have GE1 := n3_;clear n0_ n1_ n2_ n3_;clear hb hbox hg;have hcz2_0 : w1.cell? ⟨gb1, 0, none⟩ = some (.int .i64 0) := (blk_cell BK1.out 0).trans rfl;have hcz2_1 : w1.cell? ⟨gb1, 1, none⟩ = some (.int .i64 0) := (blk_cell BK1.out 1).trans rfl;have hcz2_2 : w1.cell? ⟨gb1, 2, none⟩ = some (.int .i64 0) := (blk_cell BK1.out 2).trans rfl;have hfz2_0 := blk_frozen BK1.out 0;have hfz2_1 := blk_frozen BK1.out 1;have hfz2_2 := blk_frozen BK1.out 2))
 refine bodyPost_ret (results_cell_row rfl _ _ gb1 27 #[.int .i64 1099511627776, .int .i64 1099511627776, .int .i64 1099511627776] (0, 0) _ rfl (by (with_reducible repeat (first|refine blk_drewN ?_ _|refine blk_drew ?_|refine blk_alloc ?_ _));refine blk_put (cs := #[.int .i64 1099511627776, .int .i64 1099511627776, .int .i64 0]) ?_ 2 _ rfl;(with_reducible repeat (first|refine blk_drewN ?_ _|refine blk_drew ?_|refine blk_alloc ?_ _));refine blk_put (cs := #[.int .i64 1099511627776, .int .i64 0, .int .i64 0]) ?_ 1 _ rfl;(with_reducible repeat (first|refine blk_drewN ?_ _|refine blk_drew ?_|refine blk_alloc ?_ _));refine blk_put (cs := #[.int .i64 0, .int .i64 0, .int .i64 0]) ?_ 0 _ rfl;(with_reducible repeat (first|refine blk_drewN ?_ _|refine blk_drew ?_|refine blk_alloc ?_ _));exact BK1.out) Try.underlying27 rfl (by kernel_rfl)) rfl ?_
 exact ⟨by first|rfl|(simp [errW_none, errW_some] <;> rfl)|(simp [*, errW_none, errW_some] <;> rfl), by repeat (first|(with_reducible first|exact HB.out|apply below_alloc|apply pw_below_drewN|apply below_drew1|refine below_set ?_ GE1.out)|exact HB.out)⟩
end Go.Proofs.Ytcgefpklljclgaa.Print

namespace Go.Proofs.Ytcgefpklljclgaa.Print
open Go.RowKit Go.Proofs.YtcgefpklljclgaaW.PrintWords Go.Proofs.YtcgefpklljclgaaW.PrintLast Go.Proofs.YtcgefpklljclgaaW.PrintMore
attribute [local go_sem] max2_int min2_int max_two min_two max_three min_three max_four min_four   -- for this text's walks alone
set_option linter.unusedVariables false
set_option linter.unusedSimpArgs false
/-! ### room_free: function 158 -/
def room_free.f (a0_0 : ByteArray) (a0_1 : ByteArray) (a0_2 : Int) (a0_3 : Int) (a0_4 : Int) (a0_5 : Int) (a0_6 : Int) (a0_7 : Int) (a0_8 : Int) (a0_9 : Int) (a0_10 : Int) (a0_11 : Int) : Option (Int × Int × Int) := (vec_Sub.f a0_2 a0_3 a0_4 a0_8 a0_9 a0_10).bind fun bt3 => (some (bt3.1, bt3.2.1, bt3.2.2))
set_option maxHeartbeats 8000000 in
set_option maxRecDepth 100000 in
theorem room_free.calls (a0_0 : ByteArray) (a0_1 : ByteArray) (a0_2 : Int) (a0_3 : Int) (a0_4 : Int) (a0_5 : Int) (a0_6 : Int) (a0_7 : Int) (a0_8 : Int) (a0_9 : Int) (a0_10 : Int) (a0_11 : Int) (r1 : Int) (r2 : Int) (r3 : Int) (w : World) (h : room_free.f a0_0 a0_1 a0_2 a0_3 a0_4 a0_5 a0_6 a0_7 a0_8 a0_9 a0_10 a0_11 = some (r1, r2, r3)) :
  Calls Try.prog 158 #[.agg #[.string a0_0, .string a0_1, .int .i64 a0_2, .int .i64 a0_3, .int .i64 a0_4, .int .i64 a0_5, .int .i64 a0_6, .int .i64 a0_7, .int .i64 a0_8, .int .i64 a0_9, .int .i64 a0_10, .int .i64 a0_11]] w fun e w' => e = .returned (.agg #[.int .i64 r1, .int .i64 r2, .int .i64 r3]) ∧ Below w.heap.size w w' := by
 have hu31 := Try.underlying31
 have hu27 := Try.underlying27
 have HB := Aside0.mk (Below.refl w.heap.size w)
 have H : ((vec_Sub.f a0_2 a0_3 a0_4 a0_8 a0_9 a0_10).bind fun bt3 => (some (bt3.1, bt3.2.1, bt3.2.2))) = some (r1, r2, r3) := h
 clear h
 replace H := Option.bind_eq_some_iff.mp H
 obtain ⟨⟨t3, t4, t5⟩, A20, H⟩ := H
 replace H : (some (t3, t4, t5)) = some (r1, r2, r3) := H
 have A2 := Aside0.mk A20
 clear A20
 simp only [Option.some.injEq, Prod.mk.injEq] at H
 obtain ⟨rfl, rfl, rfl⟩ := H
 go_enter Try.func158, Try.ntmps158
 go_wp2_with (first|((with_reducible refine gate_dst (N := 1) rfl ?_);refine box_event ?hg (N := 1) ?hd (cs := #[.string a0_0, .string a0_1, .int .i64 a0_2, .int .i64 a0_3, .int .i64 a0_4, .int .i64 a0_5, .int .i64 a0_6, .int .i64 a0_7, .int .i64 a0_8, .int .i64 a0_9, .int .i64 a0_10, .int .i64 a0_11]) (t := 31) ?hr ?_;(case hd => rfl);(case hg => rfl);(case hr => first|(go_simp;done)|(go_simp;rfl));intro gb1 hg w3 hbox hb;have n0_ := Aside0.mk (below_step (by repeat (first|(with_reducible first|exact HB.out|apply below_alloc|apply pw_below_drewN|apply below_drew1)|exact HB.out)) hb);have n1_ := Aside0.mk (hbox);have n2_ := Aside0.mk ((by rw [hg];exact (below_size (by repeat (first|(with_reducible first|exact HB.out|apply below_alloc|apply pw_below_drewN|apply below_drew1)|exact HB.out))) : w.heap.size ≤ gb1));have n3_ := Aside0.mk ((by rw [hg];exact (below_size (by repeat (first|(with_reducible first|exact HB.out|apply below_alloc|apply pw_below_drewN|apply below_drew1)|exact HB.out))) : w.heap.size ≤ gb1));clear HB;have HB := n0_;have BK1 := n1_;have GW1 := n2_;have GE1 := n3_;clear n0_ n1_ n2_ n3_;clear hb hbox hg)|((with_reducible refine gate_dst (N := 2) rfl ?_);refine box_event ?hg (N := 2) ?hd (cs := #[.int .i64 0, .int .i64 0, .int .i64 0]) (t := 27) ?hr ?_;(case hd => rfl);(case hg => rfl);(case hr => first|(go_simp;done)|(go_simp;rfl));intro gb2 hg w4 hbox hb;have n0_ := Aside0.mk (blk_below (g := gb1) (o := .cells #[.string a0_0, .string a0_1, .int .i64 a0_2, .int .i64 a0_3, .int .i64 a0_4, .int .i64 a0_5, .int .i64 a0_6, .int .i64 a0_7, .int .i64 a0_8, .int .i64 a0_9, .int .i64 a0_10, .int .i64 a0_11] 31 (0, 0)) (by (with_reducible repeat (first|refine blk_drewN ?_ _|refine blk_drew ?_|refine blk_alloc ?_ _));exact BK1.out) hb);have n1_ := Aside0.mk (below_step (by repeat (first|(with_reducible first|exact HB.out|apply below_alloc|apply pw_below_drewN|apply below_drew1|refine below_set ?_ GE1.out)|exact HB.out)) hb);have n2_ := Aside0.mk (hbox);have n3_ := Aside0.mk ((by rw [hg];exact (below_size (by repeat (first|(with_reducible first|exact HB.out|apply below_alloc|apply pw_below_drewN|apply below_drew1|refine below_set ?_ GE1.out)|exact HB.out))) : w.heap.size ≤ gb2));have n4_ := Aside0.mk ((by rw [hg];exact (below_size (by repeat (first|(with_reducible first|exact HB.out|apply below_alloc|apply pw_below_drewN|apply below_drew1|refine below_set ?_ GE1.out)|exact HB.out))) : w.heap.size ≤ gb2));have n5_ := Aside0.mk ((by rw [hg];exact Nat.ne_of_lt (blk_lt (g := gb1) (o := .cells #[.string a0_0, .string a0_1, .int .i64 a0_2, .int .i64 a0_3, .int .i64 a0_4, .int .i64 a0_5, .int .i64 a0_6, .int .i64 a0_7, .int .i64 a0_8, .int .i64 a0_9, .int .i64 a0_10, .int .i64 a0_11] 31 (0, 0)) (by (with_reducible repeat (first|refine blk_drewN ?_ _|refine blk_drew ?_|refine blk_alloc ?_ _));exact BK1.out)) : gb1 ≠ gb2));have n6_ := Aside0.mk ((by rw [hg];exact Nat.ne_of_gt (blk_lt (g := gb1) (o := .cells #[.string a0_0, .string a0_1, .int .i64 a0_2, .int .i64 a0_3, .int .i64 a0_4, .int .i64 a0_5, .int .i64 a0_6, .int .i64 a0_7, .int .i64 a0_8, .int .i64 a0_9, .int .i64 a0_10, .int .i64 a0_11] 31 (0, 0)) (by (with_reducible repeat (first|refine blk_drewN ?_ _|refine blk_drew ?_|refine blk_alloc ?_ _));exact BK1.out)) : gb2 ≠ gb1));clear BK1;clear HB;have BK1 := n0_;have HB := n1_;have BK2 := n2_;have GW2 := n3_;have GE2 := n4_;have NB1_2 := n5_;have NB2_1 := n6_;clear n0_ n1_ n2_ n3_ n4_ n5_ n6_;clear hb hbox hg;have hnb5 := NB1_2.out;have hnc5 := NB2_1.out;have hcz6_0 : w4.cell? ⟨gb1, 0, none⟩ = some (.string a0_0) := (blk_cell BK1.out 0).trans rfl;have hcz6_1 : w4.cell? ⟨gb1, 1, none⟩ = some (.string a0_1) := (blk_cell BK1.out 1).trans rfl;have hcz6_2 : w4.cell? ⟨gb1, 2, none⟩ = some (.int .i64 a0_2) := (blk_cell BK1.out 2).trans rfl;have hcz6_3 : w4.cell? ⟨gb1, 3, none⟩ = some (.int .i64 a0_3) := (blk_cell BK1.out 3).trans rfl;have hcz6_4 : w4.cell? ⟨gb1, 4, none⟩ = some (.int .i64 a0_4) := (blk_cell BK1.out 4).trans rfl;have hcz6_5 : w4.cell? ⟨gb1, 5, none⟩ = some (.int .i64 a0_5) := (blk_cell BK1.out 5).trans rfl;have hcz6_6 : w4.cell? ⟨gb1, 6, none⟩ = some (.int .i64 a0_6) := (blk_cell BK1.out 6).trans rfl;have hcz6_7 : w4.cell? ⟨gb1, 7, none⟩ = some (.int .i64 a0_7) := (blk_cell BK1.out 7).trans rfl;have hcz6_8 : w4.cell? ⟨gb1, 8, none⟩ = some (.int .i64 a0_8) := (blk_cell BK1.out 8).trans rfl;have hcz6_9 : w4.cell? ⟨gb1, 9, none⟩ = some (.int .i64 a0_9) := (blk_cell BK1.out 9).trans rfl;have hcz6_10 : w4.cell? ⟨gb1, 10, none⟩ = some (.int .i64 a0_10) := (blk_cell BK1.out 10).trans rfl;have hcz6_11 : w4.cell? ⟨gb1, 11, none⟩ = some (.int .i64 a0_11) := (blk_cell BK1.out 11).trans rfl;have hfz6_0 := blk_frozen BK1.out 0;have hfz6_1 := blk_frozen BK1.out 1;have hfz6_2 := blk_frozen BK1.out 2;have hfz6_3 := blk_frozen BK1.out 3;have hfz6_4 := blk_frozen BK1.out 4;have hfz6_5 := blk_frozen BK1.out 5;have hfz6_6 := blk_frozen BK1.out 6;have hfz6_7 := blk_frozen BK1.out 7;have hfz6_8 := blk_frozen BK1.out 8;have hfz6_9 := blk_frozen BK1.out 9;have hfz6_10 := blk_frozen BK1.out 10;have hfz6_11 := blk_frozen BK1.out 11)|((with_reducible refine gate_callee (f := 134) rfl ?_);refine goesL_ (some 7) rfl rfl Try.func134 (by kernel_rfl) rfl #[.agg #[.int .i64 a0_2, .int .i64 a0_3, .int .i64 a0_4], .agg #[.int .i64 a0_8, .int .i64 a0_9, .int .i64 a0_10]] rfl (by (try simp only [List.map_toArray, List.map_cons, List.map_nil]);first|done|rfl|(simp only [List.length_drop, List.length_take];rfl)) ?_;(with_reducible refine (vec_Sub.calls a0_2 a0_3 a0_4 a0_8 a0_9 a0_10 t3 t4 t5 _ A2.out).mono ?_);rintro e w7 ⟨rfl, hb⟩;refine ⟨_, rfl, ?_⟩;have n0_ := Aside0.mk (blk_below (g := gb1) (o := .cells #[.string a0_0, .string a0_1, .int .i64 a0_2, .int .i64 a0_3, .int .i64 a0_4, .int .i64 a0_5, .int .i64 a0_6, .int .i64 a0_7, .int .i64 a0_8, .int .i64 a0_9, .int .i64 a0_10, .int .i64 a0_11] 31 (0, 0)) (by (with_reducible repeat (first|refine blk_drewN ?_ _|refine blk_drew ?_|refine blk_alloc ?_ _));exact BK1.out) hb);have n1_ := Aside0.mk (blk_below (g := gb2) (o := .cells #[.int .i64 0, .int .i64 0, .int .i64 0] 27 (0, 0)) (by (with_reducible repeat (first|refine blk_drewN ?_ _|refine blk_drew ?_|refine blk_alloc ?_ _));exact BK2.out) hb);have n2_ := Aside0.mk (below_step (by repeat (first|(with_reducible first|exact HB.out|apply below_alloc|apply pw_below_drewN|apply below_drew1|refine below_set ?_ GE1.out|refine below_set ?_ GE2.out)|exact HB.out)) hb);clear BK1;clear BK2;clear HB;have BK1 := n0_;have BK2 := n1_;have HB := n2_;clear n0_ n1_ n2_;(try clear hb);(try clear hb2);(try clear hk);(try clear hi);have hcz8_0 : w7.cell? ⟨gb2, 0, none⟩ = some (.int .i64 0) := (blk_cell BK2.out 0).trans rfl;have hcz8_1 : w7.cell? ⟨gb2, 1, none⟩ = some (.int .i64 0) := (blk_cell BK2.out 1).trans rfl;have hcz8_2 : w7.cell? ⟨gb2, 2, none⟩ = some (.int .i64 0) := (blk_cell BK2.out 2).trans rfl;have hfz8_0 := blk_frozen BK2.out 0;have hfz8_1 := blk_frozen BK2.out 1;have hfz8_2 := blk_frozen BK2.out 2))
 refine bodyPost_ret (results_cell_row rfl _ _ gb2 27 #[.int .i64 t3, .int .i64 t4, .int .i64 t5] (0, 0) _ rfl (by (with_reducible repeat (first|refine blk_drewN ?_ _|refine blk_drew ?_|refine blk_alloc ?_ _));refine blk_put (cs := #[.int .i64 t3, .int .i64 t4, .int .i64 0]) ?_ 2 _ rfl;(with_reducible repeat (first|refine blk_drewN ?_ _|refine blk_drew ?_|refine blk_alloc ?_ _));refine blk_put (cs := #[.int .i64 t3, .int .i64 0, .int .i64 0]) ?_ 1 _ rfl;(with_reducible repeat (first|refine blk_drewN ?_ _|refine blk_drew ?_|refine blk_alloc ?_ _));refine blk_put (cs := #[.int .i64 0, .int .i64 0, .int .i64 0]) ?_ 0 _ rfl;(with_reducible repeat (first|refine blk_drewN ?_ _|refine blk_drew ?_|refine blk_alloc ?_ _));exact BK2.out) Try.underlying27 rfl (by kernel_rfl)) rfl ?_
 exact ⟨by first|rfl|(simp [errW_none, errW_some] <;> rfl)|(simp [*, errW_none, errW_some] <;> rfl), by repeat (first|(with_reducible first|exact HB.out|apply below_alloc|apply pw_below_drewN|apply below_drew1|refine below_set ?_ GE1.out|refine below_set ?_ GE2.out)|exact HB.out)⟩
end Go.Proofs.Ytcgefpklljclgaa.Print

namespace Go.Proofs.Ytcgefpklljclgaa.Print
open Go.RowKit Go.Proofs.YtcgefpklljclgaaW.PrintWords Go.Proofs.YtcgefpklljclgaaW.PrintLast Go.Proofs.YtcgefpklljclgaaW.PrintMore
attribute [local go_sem] max2_int min2_int max_two min_two max_three min_three max_four min_four   -- for this text's walks alone
set_option linter.unusedVariables false
set_option linter.unusedSimpArgs false
/-! ### vec_Max: function 159 -/
theorem vecMax1_calls (x y : Int) (W : World) : Calls Try.prog 173 #[.int .i64 x, .int .i64 y] W fun e w' => e = .returned (.int .i64 (mx x y)) ∧ w' = W := by
  unfold mx
  go_enter Try.func173, Try.ntmps173
  go_wp2 <;> (go_ret; exact ⟨rfl, rfl⟩)
def vec_Max.f (l0 : List (S27)) : Option (Int × Int × Int) := some (vecByF (fun x y => mx x y) l0 0 0 0)
set_option maxHeartbeats 1000000 in
set_option maxRecDepth 100000 in
theorem vec_Max.calls (A0 : Option Addr) (c0 : Nat) (l0 : List (S27)) (r1 : Int) (r2 : Int) (r3 : Int) (w : World) (hr0 : Kd.C k27 w A0 l0.length l0) (hc0 : l0.length ≤ c0) (h : vec_Max.f l0 = some (r1, r2, r3)) :
    Calls Try.prog 159 #[.slice A0 l0.length c0] w fun e w' => e = .returned (.agg #[.int .i64 r1, .int .i64 r2, .int .i64 r3]) ∧ Below w.heap.size w w' := by
  have hu27 := Try.underlying27
  have hm : l0.length ≤ maxLen := hr0.2.1
  have HC := Aside0.mk (vecBy_calls 173 (fun x y => mx x y) (enters_of Try.func173 (by kernel_rfl) rfl) vecMax1_calls A0 c0 l0 0 0 0 (w.alloc (.cells #[.int .i64 0, .int .i64 0, .int .i64 0] 27)) (Kd.C_below hr0 (below_alloc (Below.refl _ _) _)) hc0 hm)
  have HH := Aside0.mk h
  clear hr0 h
  go_enter Try.func159, Try.ntmps159
  go_wp2_with fail
  refine HC.out.mono ?_
  rintro e w1 ⟨rfl, hb⟩
  have h := Option.some.inj (show some (vecByF (fun x y => mx x y) l0 0 0 0) = some (r1, r2, r3) from HH.out)
  rw [h]
  have hZ := blk_below (blk_new w (.cells #[.int .i64 0, .int .i64 0, .int .i64 0] 27)) hb
  have HB := Aside0.mk hb
  have HZ := Aside0.mk hZ
  clear h hb hZ
  have g0 := (blk_cell HZ.out 0).trans rfl
  have g1 := (blk_cell HZ.out 1).trans rfl
  have g2 := (blk_cell HZ.out 2).trans rfl
  have z0 := blk_frozen HZ.out 0
  have z1 := blk_frozen HZ.out 1
  have z2 := blk_frozen HZ.out 2
  have hs1 : w.heap.size < w1.heap.size := blk_lt HZ.out
  go_wp2
  refine bodyPost_ret (results_cell_row rfl _ _ w.heap.size 27 #[.int .i64 r1, .int .i64 r2, .int .i64 r3] (0, 0) _ rfl (blk_put (blk_put (blk_put HZ.out 0 _ rfl) 1 _ rfl) 2 _ rfl) Try.underlying27 rfl (by kernel_rfl)) rfl ?_
  exact ⟨rfl, below_set (below_set (below_set (below_step (below_alloc (Below.refl _ _) _) HB.out) (Nat.le_refl _)) (Nat.le_refl _)) (Nat.le_refl _)⟩
end Go.Proofs.Ytcgefpklljclgaa.Print

namespace Go.Proofs.Ytcgefpklljclgaa.Print
open Go.RowKit Go.Proofs.YtcgefpklljclgaaW.PrintWords Go.Proofs.YtcgefpklljclgaaW.PrintLast Go.Proofs.YtcgefpklljclgaaW.PrintMore
attribute [local go_sem] max2_int min2_int max_two min_two max_three min_three max_four min_four   -- for this text's walks alone
set_option linter.unusedVariables false
set_option linter.unusedSimpArgs false
/-! ### room_made: function 104 -/
def room_made.l0 : Nat → List (S31) → Int → Int → List (S31) → Int → Int → Int → Option ((List (S31)) × Int × Int × Int)
 | 0, _, _, _, _, _, _, _ => none
 | k + 1, x16, x17, x18, x9000, x9001, x9002, x9003 => if x18 < x17 then (if 0 ≤ x18 then (if x18 < (x16.length : Int) then ((room_free.f ((rd_T31 x16 x18).f0) ((rd_T31 x16 x18).f1) ((rd_T31 x16 x18).f2.f0) ((rd_T31 x16 x18).f2.f1) ((rd_T31 x16 x18).f2.f2) ((rd_T31 x16 x18).f3.f0) ((rd_T31 x16 x18).f3.f1) ((rd_T31 x16 x18).f3.f2) ((rd_T31 x16 x18).f4.f0) ((rd_T31 x16 x18).f4.f1) ((rd_T31 x16 x18).f4.f2) ((rd_T31 x16 x18).f5)).bind fun bt11 => ((vec_Add.f (([(⟨x9001, x9002, x9003⟩ : S27), (⟨bt11.1, bt11.2.1, bt11.2.2⟩ : S27)] : List (S27)))).bind fun bt18 => ((vec_Max.f (([(⟨x9001, x9002, x9003⟩ : S27), (⟨bt11.1, bt11.2.1, bt11.2.2⟩ : S27)] : List (S27)))).bind fun bt24 => ((vec_Sub.f bt18.1 bt18.2.1 bt18.2.2 bt24.1 bt24.2.1 bt24.2.2).bind fun bt27 => (room_made.l0 k x16 x17 (wrap64 (x18 + 1)) x9000 bt27.1 bt27.2.1 bt27.2.2))))) else (none)) else (none)) else (some (x9000, x9001, x9002, x9003))
def room_made.f (k : Nat) (l0 : List (S31)) (a1 : ByteArray) : Option ((List (S31)) × Int × Int × Int) := (room_along.f k l0 a1).bind fun t2 => ((vec_Most.f).bind fun bt5 => (room_made.l0 k t2 (t2.length : Int) 0 t2 bt5.1 bt5.2.1 bt5.2.2))
theorem room_made.mono_l : ∀ k, (∀ y0 y1 y2 y3 y4 y5 y6, LeO (room_made.l0 k y0 y1 y2 y3 y4 y5 y6) (room_made.l0 (k + 1) y0 y1 y2 y3 y4 y5 y6))
 | 0 => fun _ _ _ _ _ _ _ r h => by simp [room_made.l0] at h
 | k + 1 => by
  have ih0 := room_made.mono_l k
  ·intro y0 y1 y2 y3 y4 y5 y6
   unfold room_made.l0
   repeat' first
   | (with_reducible exact ih0 _ _ _ _ _ _ _)
   | (with_reducible exact room_along.mono _ _ _)
   | (with_reducible exact LeO.refl _)
   | (with_reducible exact LeO.none _)
   | (with_reducible refine LeO.ite ?_ ?_)
   | (with_reducible refine LeO.bind ?_ (fun _ => ?_))
   | exact ih0 _ _ _ _ _ _ _
   | exact room_along.mono _ _ _
   | exact LeO.none _
   | refine LeO.ite ?_ ?_
   | refine LeO.bind ?_ (fun _ => ?_)
theorem room_made.mono : ∀ a0 a1 k, LeO (room_made.f k a0 a1) (room_made.f (k + 1) a0 a1) := by
 intro a0 a1 k
 have ih0 := room_made.mono_l k
 unfold room_made.f
 repeat' first
   | (with_reducible exact ih0 _ _ _ _ _ _ _)
   | (with_reducible exact room_along.mono _ _ _)
   | (with_reducible exact LeO.refl _)
   | (with_reducible exact LeO.none _)
   | (with_reducible refine LeO.ite ?_ ?_)
   | (with_reducible refine LeO.bind ?_ (fun _ => ?_))
   | exact ih0 _ _ _ _ _ _ _
   | exact room_along.mono _ _ _
   | exact LeO.none _
   | refine LeO.ite ?_ ?_
   | refine LeO.bind ?_ (fun _ => ?_)
def room_made.T6 : Bool × List (List Nat × List Nat) := (true, [([], []), ([0], [0]), ([], []), ([1, 2], [1, 2]), ([3], [3]), ([], []), ([5], [5]), ([], []), ([6, 7], [6, 7]), ([8, 4], [8]), ([4, 9, 9], [4, 9]), ([0, 1, 2, 3, 4, 5, 6, 7, 8, 9, 10], []), ([11, 10, 10, 0, 1, 2, 3, 4, 5, 6, 7, 8, 9, 10], [10, 11])])
def room_made.B6 : List Nat := [0, 1, 0, 7, 15, 0, 32, 0, 224, 511, 1023, 2047, 4095]
theorem room_made.tab6 : rtab .any (opsOf Try.f104 6) = room_made.T6 := by kernel_rfl
theorem room_made.bits6 : waitsOk room_made.T6.2 room_made.B6 = true := by kernel_rfl
set_option maxHeartbeats 8000000 in
set_option maxRecDepth 100000 in
theorem room_made.calls (k : Nat) (A0 : Option Addr) (c0 : Nat) (l0 : List (S31)) (a1 : ByteArray) (r1 : List (S31)) (r2 : Int) (r3 : Int) (r4 : Int) (w : World) (hr0 : Kd.C k31 w A0 l0.length l0) (hc0 : l0.length ≤ c0) (h : room_made.f k l0 a1 = some (r1, r2, r3, r4)) :
  Calls Try.prog 104 #[.slice A0 l0.length c0, .string a1] w fun e w' => ∃ v0_ : Value, e = .returned (.agg #[v0_, .int .i64 r2, .int .i64 r3, .int .i64 r4]) ∧ Kd.R k31 31 w' w.heap.size (fun _ => True) v0_ r1 ∧ Below w.heap.size w w' := by
 have hu127 := Try.underlying127
 have hu31 := Try.underlying31
 have hu27 := Try.underlying27
 have HR0 := Aside0.mk hr0
 have HC0 := Aside0.mk hc0
 clear hr0 hc0
 have HB := Aside0.mk (Below.refl w.heap.size w)
 have H : ((room_along.f k l0 a1).bind fun t2 => ((vec_Most.f).bind fun bt5 => (room_made.l0 k t2 (t2.length : Int) 0 t2 bt5.1 bt5.2.1 bt5.2.2))) = some (r1, r2, r3, r4) := h
 clear h
 replace H := Option.bind_eq_some_iff.mp H
 obtain ⟨t2, A30, H⟩ := H
 replace H : ((vec_Most.f).bind fun bt5 => (room_made.l0 k t2 (t2.length : Int) 0 t2 bt5.1 bt5.2.1 bt5.2.2)) = some (r1, r2, r3, r4) := H
 have A3 := Aside0.mk A30
 clear A30
 replace H := Option.bind_eq_some_iff.mp H
 obtain ⟨⟨t5, t6, t7⟩, A40, H⟩ := H
 replace H : (room_made.l0 k t2 (t2.length : Int) 0 t2 t5 t6 t7) = some (r1, r2, r3, r4) := H
 have A4 := Aside0.mk A40
 clear A40
 have H' := Aside0.mk H
 clear H
 go_enter Try.func104, Try.ntmps104
 go_wp2_with (first|((with_reducible refine gate_dst (N := 4) rfl ?_);refine box_event ?hg (N := 4) ?hd (cs := #[.slice none 0 0, .int .i64 0, .int .i64 0, .int .i64 0]) (t := 127) ?hr ?_;(case hd => rfl);(case hg => rfl);(case hr => first|(go_simp;done)|(go_simp;rfl));intro gb1 hg w5 hbox hb;have n0_ := Aside0.mk (below_step (by repeat (first|(with_reducible first|exact HB.out|apply below_alloc|apply pw_below_drewN|apply below_drew1)|exact HB.out)) hb);have n1_ := Aside0.mk (hbox);have n2_ := Aside0.mk ((by rw [hg];exact (below_size (by repeat (first|(with_reducible first|exact HB.out|apply below_alloc|apply pw_below_drewN|apply below_drew1)|exact HB.out))) : w.heap.size ≤ gb1));have n3_ := Aside0.mk ((by rw [hg];exact (below_size (by repeat (first|(with_reducible first|exact HB.out|apply below_alloc|apply pw_below_drewN|apply below_drew1)|exact HB.out))) : w.heap.size ≤ gb1));clear HB;have HB := n0_;have BK1 := n1_;have GW1 := n2_;have GE1 := n3_;clear n0_ n1_ n2_ n3_;clear hb hbox hg)|((with_reducible refine gate_callee (f := 156) rfl ?_);refine goesL_ (some 11) rfl rfl Try.func156 (by kernel_rfl) rfl #[.slice A0 l0.length c0, .string a1] rfl (by (try simp only [List.map_toArray, List.map_cons, List.map_nil]);first|done|rfl|(simp only [List.length_drop, List.length_take];rfl)) ?_;(with_reducible refine (room_along.calls k _ _ l0 a1 t2 _ ?side1 ?side2 A3.out).mono ?_);(case side1 => repeat (first|exact (Kd.C_below HR0.out HB.out)|(with_reducible refine Kd.C_alloc ?_ _)|(with_reducible refine Kd.C_drewN ?_ _)|(with_reducible refine Kd.C_drew ?_)));(case side2 => exact HC0.out);rintro e w6 ⟨v3, rfl, ho0, hb⟩;refine ⟨_, rfl, ?_⟩;have n0_ := Aside0.mk (Kd.R_lower ho0 (below_size (by repeat (first|(with_reducible first|exact HB.out|apply below_alloc|apply pw_below_drewN|apply below_drew1|refine below_set ?_ GE1.out)|exact HB.out))));have n1_ := Aside0.mk (blk_below (g := gb1) (o := .cells #[.slice none 0 0, .int .i64 0, .int .i64 0, .int .i64 0] 127 (0, 0)) (by (with_reducible repeat (first|refine blk_drewN ?_ _|refine blk_drew ?_|refine blk_alloc ?_ _));exact BK1.out) hb);have n2_ := Aside0.mk (below_step (by repeat (first|(with_reducible first|exact HB.out|apply below_alloc|apply pw_below_drewN|apply below_drew1|refine below_set ?_ GE1.out)|exact HB.out)) hb);clear BK1;clear HB;have HO4 := n0_;have BK1 := n1_;have HB := n2_;clear n0_ n1_ n2_;(try clear hb);(try clear hb2);(try clear hk);(try clear hi);(try clear ho0))|((with_reducible refine gate_callee (f := 157) rfl ?_);refine goesL_ (some 12) rfl rfl Try.func157 (by kernel_rfl) rfl #[] rfl (by (try simp only [List.map_toArray, List.map_cons, List.map_nil]);first|done|rfl|(simp only [List.length_drop, List.length_take];rfl)) ?_;(with_reducible refine (vec_Most.calls  t5 t6 t7 _ A4.out).mono ?_);rintro e w7 ⟨rfl, hb⟩;refine ⟨_, rfl, ?_⟩;have n0_ := Aside0.mk (Kd.R_below (by (with_reducible repeat (first|apply Kd.R_alloc|apply Kd.R_drewN|apply Kd.R_drew));exact HO4.out) hb);have n1_ := Aside0.mk (blk_below (g := gb1) (o := .cells #[.slice none 0 0, .int .i64 0, .int .i64 0, .int .i64 0] 127 (0, 0)) (by (with_reducible repeat (first|refine blk_drewN ?_ _|refine blk_drew ?_|refine blk_alloc ?_ _));exact BK1.out) hb);have n2_ := Aside0.mk (below_step (by repeat (first|(with_reducible first|exact HB.out|apply below_alloc|apply pw_below_drewN|apply below_drew1|refine below_set ?_ GE1.out)|exact HB.out)) hb);clear HO4;clear BK1;clear HB;have HO4 := n0_;have BK1 := n1_;have HB := n2_;clear n0_ n1_ n2_;(try clear hb);(try clear hb2);(try clear hk);(try clear hi);obtain ⟨Ao8, co8, eo8⟩ := Kd.R_slice HO4.out;subst eo8)|((with_reducible refine gate_dst (N := 5) rfl ?_);refine box_event ?hg (N := 5) ?hd (cs := #[.slice none 0 0, .int .i64 0, .int .i64 0, .int .i64 0]) (t := 127) ?hr ?_;(case hd => rfl);(case hg => rfl);(case hr => first|(go_simp;done)|(go_simp;rfl));intro gb8 hg w9 hbox hb;have n0_ := Aside0.mk (Kd.R_below (by (with_reducible repeat (first|apply Kd.R_alloc|apply Kd.R_drewN|apply Kd.R_drew));exact HO4.out) hb);have n1_ := Aside0.mk (blk_below (g := gb1) (o := .cells #[.slice none 0 0, .int .i64 0, .int .i64 0, .int .i64 0] 127 (0, 0)) (by (with_reducible repeat (first|refine blk_drewN ?_ _|refine blk_drew ?_|refine blk_alloc ?_ _));exact BK1.out) hb);have n2_ := Aside0.mk (below_step (by repeat (first|(with_reducible first|exact HB.out|apply below_alloc|apply pw_below_drewN|apply below_drew1|refine below_set ?_ GE1.out)|exact HB.out)) hb);have n3_ := Aside0.mk (hbox);have n4_ := Aside0.mk ((by rw [hg];exact (below_size (by repeat (first|(with_reducible first|exact HB.out|apply below_alloc|apply pw_below_drewN|apply below_drew1|refine below_set ?_ GE1.out)|exact HB.out))) : w.heap.size ≤ gb8));have n5_ := Aside0.mk ((by rw [hg];exact (below_size (by repeat (first|(with_reducible first|exact HB.out|apply below_alloc|apply pw_below_drewN|apply below_drew1|refine below_set ?_ GE1.out)|exact HB.out))) : w.heap.size ≤ gb8));have n6_ := Aside0.mk ((by rw [hg];exact Nat.ne_of_lt (blk_lt (g := gb1) (o := .cells #[.slice none 0 0, .int .i64 0, .int .i64 0, .int .i64 0] 127 (0, 0)) (by (with_reducible repeat (first|refine blk_drewN ?_ _|refine blk_drew ?_|refine blk_alloc ?_ _));exact BK1.out)) : gb1 ≠ gb8));have n7_ := Aside0.mk ((by rw [hg];exact Nat.ne_of_gt (blk_lt (g := gb1) (o := .cells #[.slice none 0 0, .int .i64 0, .int .i64 0, .int .i64 0] 127 (0, 0)) (by (with_reducible repeat (first|refine blk_drewN ?_ _|refine blk_drew ?_|refine blk_alloc ?_ _));exact BK1.out)) : gb8 ≠ gb1));clear HO4;clear BK1;clear HB;have HO4 := n0_;have BK1 := n1_;have HB := n2_;have BK8 := n3_;have GW8 := n4_;have GE8 := n5_;have NB1_8 := n6_;have NB8_1 := n7_;clear n0_ n1_ n2_ n3_ n4_ n5_ n6_ n7_;clear hb hbox hg;have hnb10 := NB8_1.out;have hnc10 := NB1_8.out;have hcz11_0 : w9.cell? ⟨gb8, 0, none⟩ = some (.slice none 0 0) := (blk_cell BK8.out 0).trans rfl;have hcz11_1 : w9.cell? ⟨gb8, 1, none⟩ = some (.int .i64 0) := (blk_cell BK8.out 1).trans rfl;have hcz11_2 : w9.cell? ⟨gb8, 2, none⟩ = some (.int .i64 0) := (blk_cell BK8.out 2).trans rfl;have hcz11_3 : w9.cell? ⟨gb8, 3, none⟩ = some (.int .i64 0) := (blk_cell BK8.out 3).trans rfl;have hfz11_0 := blk_frozen BK8.out 0;have hfz11_1 := blk_frozen BK8.out 1;have hfz11_2 := blk_frozen BK8.out 2;have hfz11_3 := blk_frozen BK8.out 3))
 go_loopg [18] k (fun kq v18 w' => ∃ (x18_1 : Int) (x9001_1 : Int) (x9002_1 : Int) (x9003_1 : Int), v18 = .int .i64 x18_1 ∧ Aside0 (room_made.l0 kq t2 (t2.length : Int) x18_1 t2 x9001_1 x9002_1 x9003_1 = some (r1, r2, r3, r4)) ∧ Aside0 (kq ≤ k) ∧ Aside0 (Kd.R k31 31 w' w.heap.size (fun _ => True) (.slice Ao8 t2.length co8) t2) ∧ Aside0 (Kd.R k31 31 w' w.heap.size (fun _ => True) (.slice Ao8 t2.length co8) t2) ∧ Aside0 (w'.heap[gb1]? = some (.cells #[(.slice none 0 0), .int .i64 0, .int .i64 0, .int .i64 0] 127 (0, 0))) ∧ Aside0 (w'.heap[gb8]? = some (.cells #[(.slice Ao8 t2.length co8), .int .i64 x9001_1, .int .i64 x9002_1, .int .i64 x9003_1] 127 (0, 0))) ∧ Aside0 (Below w.heap.size w w'))
 case atStart => exact ⟨(0), (t5), (t6), (t7), (by first|rfl|(simp;done)|(simp [*];done)), H', ⟨Nat.le_refl _⟩, ⟨by (with_reducible repeat (first|apply Kd.R_alloc|apply Kd.R_drewN|apply Kd.R_drew));exact Kd.R_mono (Kd.R_far (p := ⟨gb8, 3, none⟩) (Kd.R_far (p := ⟨gb8, 2, none⟩) (Kd.R_far (p := ⟨gb8, 1, none⟩) (Kd.R_far (p := ⟨gb8, 0, none⟩) (Kd.R_types HO4.out BK8.out (by decide)) (fun _ hk => hk.2) (.slice Ao8 t2.length co8)) (fun _ hk => hk.2) (.int .i64 t5)) (fun _ hk => hk.2) (.int .i64 t6)) (fun _ hk => hk.2) (.int .i64 t7)) (fun _ hk => trivial)⟩, ⟨by (with_reducible repeat (first|apply Kd.R_alloc|apply Kd.R_drewN|apply Kd.R_drew));exact Kd.R_mono (Kd.R_far (p := ⟨gb8, 3, none⟩) (Kd.R_far (p := ⟨gb8, 2, none⟩) (Kd.R_far (p := ⟨gb8, 1, none⟩) (Kd.R_far (p := ⟨gb8, 0, none⟩) (Kd.R_types HO4.out BK8.out (by decide)) (fun _ hk => hk.2) (.slice Ao8 t2.length co8)) (fun _ hk => hk.2) (.int .i64 t5)) (fun _ hk => hk.2) (.int .i64 t6)) (fun _ hk => hk.2) (.int .i64 t7)) (fun _ hk => trivial)⟩, ⟨by (with_reducible repeat (first|refine blk_drewN ?_ _|refine blk_drew ?_|refine blk_alloc ?_ _));refine blk_far ?_ NB1_8.out _;(with_reducible repeat (first|refine blk_drewN ?_ _|refine blk_drew ?_|refine blk_alloc ?_ _));refine blk_far ?_ NB1_8.out _;(with_reducible repeat (first|refine blk_drewN ?_ _|refine blk_drew ?_|refine blk_alloc ?_ _));refine blk_far ?_ NB1_8.out _;(with_reducible repeat (first|refine blk_drewN ?_ _|refine blk_drew ?_|refine blk_alloc ?_ _));refine blk_far ?_ NB1_8.out _;(with_reducible repeat (first|refine blk_drewN ?_ _|refine blk_drew ?_|refine blk_alloc ?_ _));exact BK1.out⟩, ⟨by (with_reducible repeat (first|refine blk_drewN ?_ _|refine blk_drew ?_|refine blk_alloc ?_ _));refine blk_put (cs := #[.slice Ao8 t2.length co8, .int .i64 t5, .int .i64 t6, .int .i64 0]) ?_ 3 _ rfl;(with_reducible repeat (first|refine blk_drewN ?_ _|refine blk_drew ?_|refine blk_alloc ?_ _));refine blk_put (cs := #[.slice Ao8 t2.length co8, .int .i64 t5, .int .i64 0, .int .i64 0]) ?_ 2 _ rfl;(with_reducible repeat (first|refine blk_drewN ?_ _|refine blk_drew ?_|refine blk_alloc ?_ _));refine blk_put (cs := #[.slice Ao8 t2.length co8, .int .i64 0, .int .i64 0, .int .i64 0]) ?_ 1 _ rfl;(with_reducible repeat (first|refine blk_drewN ?_ _|refine blk_drew ?_|refine blk_alloc ?_ _));refine blk_put (cs := #[.slice none 0 0, .int .i64 0, .int .i64 0, .int .i64 0]) ?_ 0 _ rfl;(with_reducible repeat (first|refine blk_drewN ?_ _|refine blk_drew ?_|refine blk_alloc ?_ _));exact BK8.out⟩, ⟨by repeat (first|(with_reducible first|exact HB.out|apply below_alloc|apply pw_below_drewN|apply below_drew1|refine below_set ?_ GE1.out|refine below_set ?_ GE8.out)|exact HB.out)⟩⟩
 case round =>
  clear H'
  try clear c1
  try clear p2
  try clear c10
  try clear hcz11_0
  try clear hcz11_1
  try clear hcz11_2
  try clear hcz11_3
  try clear hfz11_0
  try clear hfz11_1
  try clear hfz11_2
  try clear hfz11_3
  obtain ⟨x18_1, x9001_1, x9002_1, x9003_1, rfl, HA, HK1, HO_16, HO_9000, BK1, BK8, HB⟩ := hrel
  cases gk with
  | zero => exact absurd HA.out (by simp [room_made.l0])
  | succ k1 =>
   have H := HA.out
   clear HA
   simp only [room_made.l0] at H
   by_cases c12 : x18_1 < (t2.length : Int)
   ·rw [if_pos c12] at H
    have c12b0 : decide (x18_1 < (t2.length : Int)) = true := decide_eq_true c12
    clear c12
    by_cases c13 : 0 ≤ x18_1
    ·rw [if_pos c13] at H
     have c13b0 : decide (0 ≤ x18_1) = true := decide_eq_true c13
     clear c13
     by_cases c14 : x18_1 < (t2.length : Int)
     ·rw [if_pos c14] at H
      have c14b0 : decide (x18_1 < (t2.length : Int)) = true := decide_eq_true c14
      clear c14
      replace H := Option.bind_eq_some_iff.mp H
      obtain ⟨⟨t11, t12, t13⟩, A150, H⟩ := H
      replace H : ((vec_Add.f (([(⟨x9001_1, x9002_1, x9003_1⟩ : S27), (⟨t11, t12, t13⟩ : S27)] : List (S27)))).bind fun bt18 => ((vec_Max.f (([(⟨x9001_1, x9002_1, x9003_1⟩ : S27), (⟨t11, t12, t13⟩ : S27)] : List (S27)))).bind fun bt24 => ((vec_Sub.f bt18.1 bt18.2.1 bt18.2.2 bt24.1 bt24.2.1 bt24.2.2).bind fun bt27 => (room_made.l0 k1 t2 (t2.length : Int) (wrap64 (x18_1 + 1)) t2 bt27.1 bt27.2.1 bt27.2.2)))) = some (r1, r2, r3, r4) := H
      have A15 := Aside0.mk A150
      clear A150
      obtain ⟨y15, hy15⟩ : ∃ y_ : List (S27), y_ = (([(⟨x9001_1, x9002_1, x9003_1⟩ : S27), (⟨t11, t12, t13⟩ : S27)] : List (S27))) := ⟨_, rfl⟩
      replace H : ((vec_Add.f y15).bind fun bt18 => ((vec_Max.f (([(⟨x9001_1, x9002_1, x9003_1⟩ : S27), (⟨t11, t12, t13⟩ : S27)] : List (S27)))).bind fun bt24 => ((vec_Sub.f bt18.1 bt18.2.1 bt18.2.2 bt24.1 bt24.2.1 bt24.2.2).bind fun bt27 => (room_made.l0 k1 t2 (t2.length : Int) (wrap64 (x18_1 + 1)) t2 bt27.1 bt27.2.1 bt27.2.2)))) = some (r1, r2, r3, r4) := by first|(rw [hy15];with_reducible exact H)|(have H2_ := (Option.bind_some _ _).symm.trans H;rw [hy15];with_reducible exact H2_)|(have H2_ := (Option.bind_some _ _).symm.trans H;with_reducible exact H2_)|with_reducible exact H|(rw [hy15];exact H)|exact H
      have Ny15 := Aside0.mk hy15
      clear hy15
      replace H := Option.bind_eq_some_iff.mp H
      obtain ⟨⟨t18, t19, t20⟩, A160, H⟩ := H
      replace H : ((vec_Max.f (([(⟨x9001_1, x9002_1, x9003_1⟩ : S27), (⟨t11, t12, t13⟩ : S27)] : List (S27)))).bind fun bt24 => ((vec_Sub.f t18 t19 t20 bt24.1 bt24.2.1 bt24.2.2).bind fun bt27 => (room_made.l0 k1 t2 (t2.length : Int) (wrap64 (x18_1 + 1)) t2 bt27.1 bt27.2.1 bt27.2.2))) = some (r1, r2, r3, r4) := H
      have A16 := Aside0.mk A160
      clear A160
      obtain ⟨y21, hy21⟩ : ∃ y_ : List (S27), y_ = (([(⟨x9001_1, x9002_1, x9003_1⟩ : S27), (⟨t11, t12, t13⟩ : S27)] : List (S27))) := ⟨_, rfl⟩
      replace H : ((vec_Max.f y21).bind fun bt24 => ((vec_Sub.f t18 t19 t20 bt24.1 bt24.2.1 bt24.2.2).bind fun bt27 => (room_made.l0 k1 t2 (t2.length : Int) (wrap64 (x18_1 + 1)) t2 bt27.1 bt27.2.1 bt27.2.2))) = some (r1, r2, r3, r4) := by first|(rw [hy21];with_reducible exact H)|(have H2_ := (Option.bind_some _ _).symm.trans H;rw [hy21];with_reducible exact H2_)|(have H2_ := (Option.bind_some _ _).symm.trans H;with_reducible exact H2_)|with_reducible exact H|(rw [hy21];exact H)|exact H
      have Ny21 := Aside0.mk hy21
      clear hy21
      replace H := Option.bind_eq_some_iff.mp H
      obtain ⟨⟨t24, t25, t26⟩, A170, H⟩ := H
      replace H : ((vec_Sub.f t18 t19 t20 t24 t25 t26).bind fun bt27 => (room_made.l0 k1 t2 (t2.length : Int) (wrap64 (x18_1 + 1)) t2 bt27.1 bt27.2.1 bt27.2.2)) = some (r1, r2, r3, r4) := H
      have A17 := Aside0.mk A170
      clear A170
      replace H := Option.bind_eq_some_iff.mp H
      obtain ⟨⟨t27, t28, t29⟩, A180, H⟩ := H
      replace H : (room_made.l0 k1 t2 (t2.length : Int) (wrap64 (x18_1 + 1)) t2 t27 t28 t29) = some (r1, r2, r3, r4) := H
      have A18 := Aside0.mk A180
      clear A180
      have H' := Aside0.mk H
      clear H
      have p9 : 0 ≤ (x18_1 : Int) := of_decide_eq_true (by first|(with_reducible assumption)|assumption)
      have q9 : x18_1 < (t2.length : Int) := of_decide_eq_true (by first|(with_reducible assumption)|assumption)
      obtain ⟨ad9, e9, hx9_0, hx9_1, hx9_2, hx9_3, hx9_4, hx9_5, hx9_6, hx9_7, hx9_8, hx9_9, hx9_10, hx9_11⟩ := at_T31 (Kd.R_reads' HO_16.out).2.2 x18_1 p9 q9
      cases e9
      replace p9 := eq_true p9
      replace q9 := eq_true q9
      try go_wp2_with (first|((with_reducible refine gate_dst (N := 7) rfl ?_);refine box_event ?hg (N := 7) ?hd (cs := #[.string (⟨#[]⟩ : ByteArray), .string (⟨#[]⟩ : ByteArray), .int .i64 0, .int .i64 0, .int .i64 0, .int .i64 0, .int .i64 0, .int .i64 0, .int .i64 0, .int .i64 0, .int .i64 0, .int .i64 0]) (t := 31) ?hr ?_;(case hd => rfl);(case hg => rfl);(case hr => first|(go_simp;done)|(go_simp;rfl));intro gb10 hg w19 hbox hb;have n0_ := Aside0.mk (Kd.R_below (Kd.R_elderB (by (with_reducible repeat (first|apply Kd.R_alloc|apply Kd.R_drewN|apply Kd.R_drew));exact HO_16.out) gb10 (Nat.le_of_eq hg.symm)) hb);have n1_ := Aside0.mk (Kd.R_below (Kd.R_elderB (by (with_reducible repeat (first|apply Kd.R_alloc|apply Kd.R_drewN|apply Kd.R_drew));exact HO_9000.out) gb10 (Nat.le_of_eq hg.symm)) hb);have n2_ := Aside0.mk (blk_below (g := gb1) (o := .cells #[.slice none 0 0, .int .i64 0, .int .i64 0, .int .i64 0] 127 (0, 0)) (by (with_reducible repeat (first|refine blk_drewN ?_ _|refine blk_drew ?_|refine blk_alloc ?_ _));exact BK1.out) hb);have n3_ := Aside0.mk (blk_below (g := gb8) (o := .cells #[.slice (some ad9) t2.length co8, .int .i64 x9001_1, .int .i64 x9002_1, .int .i64 x9003_1] 127 (0, 0)) (by (with_reducible repeat (first|refine blk_drewN ?_ _|refine blk_drew ?_|refine blk_alloc ?_ _));exact BK8.out) hb);have n4_ := Aside0.mk (below_step (by repeat (first|(with_reducible first|exact HB.out|apply below_alloc|apply pw_below_drewN|apply below_drew1|refine below_set ?_ GE1.out|refine below_set ?_ GE8.out)|exact HB.out)) hb);have n5_ := Aside0.mk (hbox);have n6_ := Aside0.mk ((by rw [hg];exact (below_size (by repeat (first|(with_reducible first|exact HB.out|apply below_alloc|apply pw_below_drewN|apply below_drew1|refine below_set ?_ GE1.out|refine below_set ?_ GE8.out)|exact HB.out))) : w.heap.size ≤ gb10));have n7_ := Aside0.mk ((by rw [hg];exact (below_size (by repeat (first|(with_reducible first|exact HB.out|apply below_alloc|apply pw_below_drewN|apply below_drew1|refine below_set ?_ GE1.out|refine below_set ?_ GE8.out)|exact HB.out))) : w.heap.size ≤ gb10));have n8_ := Aside0.mk ((by rw [hg];exact Nat.ne_of_lt (blk_lt (g := gb1) (o := .cells #[.slice none 0 0, .int .i64 0, .int .i64 0, .int .i64 0] 127 (0, 0)) (by (with_reducible repeat (first|refine blk_drewN ?_ _|refine blk_drew ?_|refine blk_alloc ?_ _));exact BK1.out)) : gb1 ≠ gb10));have n9_ := Aside0.mk ((by rw [hg];exact Nat.ne_of_gt (blk_lt (g := gb1) (o := .cells #[.slice none 0 0, .int .i64 0, .int .i64 0, .int .i64 0] 127 (0, 0)) (by (with_reducible repeat (first|refine blk_drewN ?_ _|refine blk_drew ?_|refine blk_alloc ?_ _));exact BK1.out)) : gb10 ≠ gb1));have n10_ := Aside0.mk ((by rw [hg];exact Nat.ne_of_lt (blk_lt (g := gb8) (o := .cells #[.slice (some ad9) t2.length co8, .int .i64 x9001_1, .int .i64 x9002_1, .int .i64 x9003_1] 127 (0, 0)) (by (with_reducible repeat (first|refine blk_drewN ?_ _|refine blk_drew ?_|refine blk_alloc ?_ _));exact BK8.out)) : gb8 ≠ gb10));have n11_ := Aside0.mk ((by rw [hg];exact Nat.ne_of_gt (blk_lt (g := gb8) (o := .cells #[.slice (some ad9) t2.length co8, .int .i64 x9001_1, .int .i64 x9002_1, .int .i64 x9003_1] 127 (0, 0)) (by (with_reducible repeat (first|refine blk_drewN ?_ _|refine blk_drew ?_|refine blk_alloc ?_ _));exact BK8.out)) : gb10 ≠ gb8));clear HO_16;clear HO_9000;clear BK1;clear BK8;clear HB;have HO_16 := n0_;have HO_9000 := n1_;have BK1 := n2_;have BK8 := n3_;have HB := n4_;have BK10 := n5_;have GW10 := n6_;have GE10 := n7_;have NB1_10 := n8_;have NB10_1 := n9_;have NB8_10 := n10_;have NB10_8 := n11_;clear n0_ n1_ n2_ n3_ n4_ n5_ n6_ n7_ n8_ n9_ n10_ n11_;clear hb hbox hg;have hnb20 := NB10_1.out;have hnc20 := NB1_10.out;have hnb21 := NB10_8.out;have hnc21 := NB8_10.out;have hcz22_0 : w19.cell? ⟨gb10, 0, none⟩ = some (.string (⟨#[]⟩ : ByteArray)) := (blk_cell BK10.out 0).trans rfl;have hcz22_1 : w19.cell? ⟨gb10, 1, none⟩ = some (.string (⟨#[]⟩ : ByteArray)) := (blk_cell BK10.out 1).trans rfl;have hcz22_2 : w19.cell? ⟨gb10, 2, none⟩ = some (.int .i64 0) := (blk_cell BK10.out 2).trans rfl;have hcz22_3 : w19.cell? ⟨gb10, 3, none⟩ = some (.int .i64 0) := (blk_cell BK10.out 3).trans rfl;have hcz22_4 : w19.cell? ⟨gb10, 4, none⟩ = some (.int .i64 0) := (blk_cell BK10.out 4).trans rfl;have hcz22_5 : w19.cell? ⟨gb10, 5, none⟩ = some (.int .i64 0) := (blk_cell BK10.out 5).trans rfl;have hcz22_6 : w19.cell? ⟨gb10, 6, none⟩ = some (.int .i64 0) := (blk_cell BK10.out 6).trans rfl;have hcz22_7 : w19.cell? ⟨gb10, 7, none⟩ = some (.int .i64 0) := (blk_cell BK10.out 7).trans rfl;have hcz22_8 : w19.cell? ⟨gb10, 8, none⟩ = some (.int .i64 0) := (blk_cell BK10.out 8).trans rfl;have hcz22_9 : w19.cell? ⟨gb10, 9, none⟩ = some (.int .i64 0) := (blk_cell BK10.out 9).trans rfl;have hcz22_10 : w19.cell? ⟨gb10, 10, none⟩ = some (.int .i64 0) := (blk_cell BK10.out 10).trans rfl;have hcz22_11 : w19.cell? ⟨gb10, 11, none⟩ = some (.int .i64 0) := (blk_cell BK10.out 11).trans rfl;have hfz22_0 := blk_frozen BK10.out 0;have hfz22_1 := blk_frozen BK10.out 1;have hfz22_2 := blk_frozen BK10.out 2;have hfz22_3 := blk_frozen BK10.out 3;have hfz22_4 := blk_frozen BK10.out 4;have hfz22_5 := blk_frozen BK10.out 5;have hfz22_6 := blk_frozen BK10.out 6;have hfz22_7 := blk_frozen BK10.out 7;have hfz22_8 := blk_frozen BK10.out 8;have hfz22_9 := blk_frozen BK10.out 9;have hfz22_10 := blk_frozen BK10.out 10;have hfz22_11 := blk_frozen BK10.out 11)|((with_reducible refine gate_callee (f := 158) rfl ?_);refine goesL_ (some 23) rfl rfl Try.func158 (by kernel_rfl) rfl #[.agg #[.string ((rd_T31 t2 x18_1).f0), .string ((rd_T31 t2 x18_1).f1), .int .i64 ((rd_T31 t2 x18_1).f2.f0), .int .i64 ((rd_T31 t2 x18_1).f2.f1), .int .i64 ((rd_T31 t2 x18_1).f2.f2), .int .i64 ((rd_T31 t2 x18_1).f3.f0), .int .i64 ((rd_T31 t2 x18_1).f3.f1), .int .i64 ((rd_T31 t2 x18_1).f3.f2), .int .i64 ((rd_T31 t2 x18_1).f4.f0), .int .i64 ((rd_T31 t2 x18_1).f4.f1), .int .i64 ((rd_T31 t2 x18_1).f4.f2), .int .i64 ((rd_T31 t2 x18_1).f5)]] rfl (by (try simp only [List.map_toArray, List.map_cons, List.map_nil]);first|done|rfl|(simp only [List.length_drop, List.length_take];rfl)) ?_;(with_reducible refine (room_free.calls ((rd_T31 t2 x18_1).f0) ((rd_T31 t2 x18_1).f1) ((rd_T31 t2 x18_1).f2.f0) ((rd_T31 t2 x18_1).f2.f1) ((rd_T31 t2 x18_1).f2.f2) ((rd_T31 t2 x18_1).f3.f0) ((rd_T31 t2 x18_1).f3.f1) ((rd_T31 t2 x18_1).f3.f2) ((rd_T31 t2 x18_1).f4.f0) ((rd_T31 t2 x18_1).f4.f1) ((rd_T31 t2 x18_1).f4.f2) ((rd_T31 t2 x18_1).f5) t11 t12 t13 _ A15.out).mono ?_);rintro e w23 ⟨rfl, hb⟩;refine ⟨_, rfl, ?_⟩;have n0_ := Aside0.mk (Kd.R_below (by (with_reducible repeat (first|apply Kd.R_alloc|apply Kd.R_drewN|apply Kd.R_drew));exact (Kd.R_mono (Kd.R_far (p := ⟨gb10, 11, none⟩) (Kd.R_far (p := ⟨gb10, 10, none⟩) (Kd.R_far (p := ⟨gb10, 9, none⟩) (Kd.R_far (p := ⟨gb10, 8, none⟩) (Kd.R_far (p := ⟨gb10, 7, none⟩) (Kd.R_far (p := ⟨gb10, 6, none⟩) (Kd.R_far (p := ⟨gb10, 5, none⟩) (Kd.R_far (p := ⟨gb10, 4, none⟩) (Kd.R_far (p := ⟨gb10, 3, none⟩) (Kd.R_far (p := ⟨gb10, 2, none⟩) (Kd.R_far (p := ⟨gb10, 1, none⟩) (Kd.R_far (p := ⟨gb10, 0, none⟩) (Kd.R_mono HO_16.out (fun k_ hk => (⟨hk, hk.2⟩ : _ ∧ k_ ≠ gb10))) (fun _ hk => hk.2) (.string ((rd_T31 t2 x18_1).f0))) (fun _ hk => hk.2) (.string ((rd_T31 t2 x18_1).f1))) (fun _ hk => hk.2) (.int .i64 ((rd_T31 t2 x18_1).f2.f0))) (fun _ hk => hk.2) (.int .i64 ((rd_T31 t2 x18_1).f2.f1))) (fun _ hk => hk.2) (.int .i64 ((rd_T31 t2 x18_1).f2.f2))) (fun _ hk => hk.2) (.int .i64 ((rd_T31 t2 x18_1).f3.f0))) (fun _ hk => hk.2) (.int .i64 ((rd_T31 t2 x18_1).f3.f1))) (fun _ hk => hk.2) (.int .i64 ((rd_T31 t2 x18_1).f3.f2))) (fun _ hk => hk.2) (.int .i64 ((rd_T31 t2 x18_1).f4.f0))) (fun _ hk => hk.2) (.int .i64 ((rd_T31 t2 x18_1).f4.f1))) (fun _ hk => hk.2) (.int .i64 ((rd_T31 t2 x18_1).f4.f2))) (fun _ hk => hk.2) (.int .i64 ((rd_T31 t2 x18_1).f5))) (fun _ h_ => h_.1))) hb);have n1_ := Aside0.mk (Kd.R_below (by (with_reducible repeat (first|apply Kd.R_alloc|apply Kd.R_drewN|apply Kd.R_drew));exact (Kd.R_mono (Kd.R_far (p := ⟨gb10, 11, none⟩) (Kd.R_far (p := ⟨gb10, 10, none⟩) (Kd.R_far (p := ⟨gb10, 9, none⟩) (Kd.R_far (p := ⟨gb10, 8, none⟩) (Kd.R_far (p := ⟨gb10, 7, none⟩) (Kd.R_far (p := ⟨gb10, 6, none⟩) (Kd.R_far (p := ⟨gb10, 5, none⟩) (Kd.R_far (p := ⟨gb10, 4, none⟩) (Kd.R_far (p := ⟨gb10, 3, none⟩) (Kd.R_far (p := ⟨gb10, 2, none⟩) (Kd.R_far (p := ⟨gb10, 1, none⟩) (Kd.R_far (p := ⟨gb10, 0, none⟩) (Kd.R_mono HO_9000.out (fun k_ hk => (⟨hk, hk.2⟩ : _ ∧ k_ ≠ gb10))) (fun _ hk => hk.2) (.string ((rd_T31 t2 x18_1).f0))) (fun _ hk => hk.2) (.string ((rd_T31 t2 x18_1).f1))) (fun _ hk => hk.2) (.int .i64 ((rd_T31 t2 x18_1).f2.f0))) (fun _ hk => hk.2) (.int .i64 ((rd_T31 t2 x18_1).f2.f1))) (fun _ hk => hk.2) (.int .i64 ((rd_T31 t2 x18_1).f2.f2))) (fun _ hk => hk.2) (.int .i64 ((rd_T31 t2 x18_1).f3.f0))) (fun _ hk => hk.2) (.int .i64 ((rd_T31 t2 x18_1).f3.f1))) (fun _ hk => hk.2) (.int .i64 ((rd_T31 t2 x18_1).f3.f2))) (fun _ hk => hk.2) (.int .i64 ((rd_T31 t2 x18_1).f4.f0))) (fun _ hk => hk.2) (.int .i64 ((rd_T31 t2 x18_1).f4.f1))) (fun _ hk => hk.2) (.int .i64 ((rd_T31 t2 x18_1).f4.f2))) (fun _ hk => hk.2) (.int .i64 ((rd_T31 t2 x18_1).f5))) (fun _ h_ => h_.1))) hb);have n2_ := Aside0.mk (blk_below (g := gb1) (o := .cells #[.slice none 0 0, .int .i64 0, .int .i64 0, .int .i64 0] 127 (0, 0)) (by (with_reducible repeat (first|refine blk_drewN ?_ _|refine blk_drew ?_|refine blk_alloc ?_ _));refine blk_far ?_ NB1_10.out _;(with_reducible repeat (first|refine blk_drewN ?_ _|refine blk_drew ?_|refine blk_alloc ?_ _));refine blk_far ?_ NB1_10.out _;(with_reducible repeat (first|refine blk_drewN ?_ _|refine blk_drew ?_|refine blk_alloc ?_ _));refine blk_far ?_ NB1_10.out _;(with_reducible repeat (first|refine blk_drewN ?_ _|refine blk_drew ?_|refine blk_alloc ?_ _));refine blk_far ?_ NB1_10.out _;(with_reducible repeat (first|refine blk_drewN ?_ _|refine blk_drew ?_|refine blk_alloc ?_ _));refine blk_far ?_ NB1_10.out _;(with_reducible repeat (first|refine blk_drewN ?_ _|refine blk_drew ?_|refine blk_alloc ?_ _));refine blk_far ?_ NB1_10.out _;(with_reducible repeat (first|refine blk_drewN ?_ _|refine blk_drew ?_|refine blk_alloc ?_ _));refine blk_far ?_ NB1_10.out _;(with_reducible repeat (first|refine blk_drewN ?_ _|refine blk_drew ?_|refine blk_alloc ?_ _));refine blk_far ?_ NB1_10.out _;(with_reducible repeat (first|refine blk_drewN ?_ _|refine blk_drew ?_|refine blk_alloc ?_ _));refine blk_far ?_ NB1_10.out _;(with_reducible repeat (first|refine blk_drewN ?_ _|refine blk_drew ?_|refine blk_alloc ?_ _));refine blk_far ?_ NB1_10.out _;(with_reducible repeat (first|refine blk_drewN ?_ _|refine blk_drew ?_|refine blk_alloc ?_ _));refine blk_far ?_ NB1_10.out _;(with_reducible repeat (first|refine blk_drewN ?_ _|refine blk_drew ?_|refine blk_alloc ?_ _));refine blk_far ?_ NB1_10.out _;(with_reducible repeat (first|refine blk_drewN ?_ _|refine blk_drew ?_|refine blk_alloc ?_ _));exact BK1.out) hb);have n3_ := Aside0.mk (blk_below (g := gb8) (o := .cells #[.slice (some ad9) t2.length co8, .int .i64 x9001_1, .int .i64 x9002_1, .int .i64 x9003_1] 127 (0, 0)) (by (with_reducible repeat (first|refine blk_drewN ?_ _|refine blk_drew ?_|refine blk_alloc ?_ _));refine blk_far ?_ NB8_10.out _;(with_reducible repeat (first|refine blk_drewN ?_ _|refine blk_drew ?_|refine blk_alloc ?_ _));refine blk_far ?_ NB8_10.out _;(with_reducible repeat (first|refine blk_drewN ?_ _|refine blk_drew ?_|refine blk_alloc ?_ _));refine blk_far ?_ NB8_10.out _;(with_reducible repeat (first|refine blk_drewN ?_ _|refine blk_drew ?_|refine blk_alloc ?_ _));refine blk_far ?_ NB8_10.out _;(with_reducible repeat (first|refine blk_drewN ?_ _|refine blk_drew ?_|refine blk_alloc ?_ _));refine blk_far ?_ NB8_10.out _;(with_reducible repeat (first|refine blk_drewN ?_ _|refine blk_drew ?_|refine blk_alloc ?_ _));refine blk_far ?_ NB8_10.out _;(with_reducible repeat (first|refine blk_drewN ?_ _|refine blk_drew ?_|refine blk_alloc ?_ _));refine blk_far ?_ NB8_10.out _;(with_reducible repeat (first|refine blk_drewN ?_ _|refine blk_drew ?_|refine blk_alloc ?_ _));refine blk_far ?_ NB8_10.out _;(with_reducible repeat (first|refine blk_drewN ?_ _|refine blk_drew ?_|refine blk_alloc ?_ _));refine blk_far ?_ NB8_10.out _;(with_reducible repeat (first|refine blk_drewN ?_ _|refine blk_drew ?_|refine blk_alloc ?_ _));refine blk_far ?_ NB8_10.out _;(with_reducible repeat (first|refine blk_drewN ?_ _|refine blk_drew ?_|refine blk_alloc ?_ _));refine blk_far ?_ NB8_10.out _;(with_reducible repeat (first|refine blk_drewN ?_ _|refine blk_drew ?_|refine blk_alloc ?_ _));refine blk_far ?_ NB8_10.out _;(with_reducible repeat (first|refine blk_drewN ?_ _|refine blk_drew ?_|refine blk_alloc ?_ _));exact BK8.out) hb);have n4_ := Aside0.mk (blk_below (g := gb10) (o := .cells #[.string ((rd_T31 t2 x18_1).f0), .string ((rd_T31 t2 x18_1).f1), .int .i64 ((rd_T31 t2 x18_1).f2.f0), .int .i64 ((rd_T31 t2 x18_1).f2.f1), .int .i64 ((rd_T31 t2 x18_1).f2.f2), .int .i64 ((rd_T31 t2 x18_1).f3.f0), .int .i64 ((rd_T31 t2 x18_1).f3.f1), .int .i64 ((rd_T31 t2 x18_1).f3.f2), .int .i64 ((rd_T31 t2 x18_1).f4.f0), .int .i64 ((rd_T31 t2 x18_1).f4.f1), .int .i64 ((rd_T31 t2 x18_1).f4.f2), .int .i64 ((rd_T31 t2 x18_1).f5)] 31 (0, 0)) (by (with_reducible repeat (first|refine blk_drewN ?_ _|refine blk_drew ?_|refine blk_alloc ?_ _));refine blk_put (cs := #[.string ((rd_T31 t2 x18_1).f0), .string ((rd_T31 t2 x18_1).f1), .int .i64 ((rd_T31 t2 x18_1).f2.f0), .int .i64 ((rd_T31 t2 x18_1).f2.f1), .int .i64 ((rd_T31 t2 x18_1).f2.f2), .int .i64 ((rd_T31 t2 x18_1).f3.f0), .int .i64 ((rd_T31 t2 x18_1).f3.f1), .int .i64 ((rd_T31 t2 x18_1).f3.f2), .int .i64 ((rd_T31 t2 x18_1).f4.f0), .int .i64 ((rd_T31 t2 x18_1).f4.f1), .int .i64 ((rd_T31 t2 x18_1).f4.f2), .int .i64 0]) ?_ 11 _ rfl;(with_reducible repeat (first|refine blk_drewN ?_ _|refine blk_drew ?_|refine blk_alloc ?_ _));refine blk_put (cs := #[.string ((rd_T31 t2 x18_1).f0), .string ((rd_T31 t2 x18_1).f1), .int .i64 ((rd_T31 t2 x18_1).f2.f0), .int .i64 ((rd_T31 t2 x18_1).f2.f1), .int .i64 ((rd_T31 t2 x18_1).f2.f2), .int .i64 ((rd_T31 t2 x18_1).f3.f0), .int .i64 ((rd_T31 t2 x18_1).f3.f1), .int .i64 ((rd_T31 t2 x18_1).f3.f2), .int .i64 ((rd_T31 t2 x18_1).f4.f0), .int .i64 ((rd_T31 t2 x18_1).f4.f1), .int .i64 0, .int .i64 0]) ?_ 10 _ rfl;(with_reducible repeat (first|refine blk_drewN ?_ _|refine blk_drew ?_|refine blk_alloc ?_ _));refine blk_put (cs := #[.string ((rd_T31 t2 x18_1).f0), .string ((rd_T31 t2 x18_1).f1), .int .i64 ((rd_T31 t2 x18_1).f2.f0), .int .i64 ((rd_T31 t2 x18_1).f2.f1), .int .i64 ((rd_T31 t2 x18_1).f2.f2), .int .i64 ((rd_T31 t2 x18_1).f3.f0), .int .i64 ((rd_T31 t2 x18_1).f3.f1), .int .i64 ((rd_T31 t2 x18_1).f3.f2), .int .i64 ((rd_T31 t2 x18_1).f4.f0), .int .i64 0, .int .i64 0, .int .i64 0]) ?_ 9 _ rfl;(with_reducible repeat (first|refine blk_drewN ?_ _|refine blk_drew ?_|refine blk_alloc ?_ _));refine blk_put (cs := #[.string ((rd_T31 t2 x18_1).f0), .string ((rd_T31 t2 x18_1).f1), .int .i64 ((rd_T31 t2 x18_1).f2.f0), .int .i64 ((rd_T31 t2 x18_1).f2.f1), .int .i64 ((rd_T31 t2 x18_1).f2.f2), .int .i64 ((rd_T31 t2 x18_1).f3.f0), .int .i64 ((rd_T31 t2 x18_1).f3.f1), .int .i64 ((rd_T31 t2 x18_1).f3.f2), .int .i64 0, .int .i64 0, .int .i64 0, .int .i64 0]) ?_ 8 _ rfl;(with_reducible repeat (first|refine blk_drewN ?_ _|refine blk_drew ?_|refine blk_alloc ?_ _));refine blk_put (cs := #[.string ((rd_T31 t2 x18_1).f0), .string ((rd_T31 t2 x18_1).f1), .int .i64 ((rd_T31 t2 x18_1).f2.f0), .int .i64 ((rd_T31 t2 x18_1).f2.f1), .int .i64 ((rd_T31 t2 x18_1).f2.f2), .int .i64 ((rd_T31 t2 x18_1).f3.f0), .int .i64 ((rd_T31 t2 x18_1).f3.f1), .int .i64 0, .int .i64 0, .int .i64 0, .int .i64 0, .int .i64 0]) ?_ 7 _ rfl;(with_reducible repeat (first|refine blk_drewN ?_ _|refine blk_drew ?_|refine blk_alloc ?_ _));refine blk_put (cs := #[.string ((rd_T31 t2 x18_1).f0), .string ((rd_T31 t2 x18_1).f1), .int .i64 ((rd_T31 t2 x18_1).f2.f0), .int .i64 ((rd_T31 t2 x18_1).f2.f1), .int .i64 ((rd_T31 t2 x18_1).f2.f2), .int .i64 ((rd_T31 t2 x18_1).f3.f0), .int .i64 0, .int .i64 0, .int .i64 0, .int .i64 0, .int .i64 0, .int .i64 0]) ?_ 6 _ rfl;(with_reducible repeat (first|refine blk_drewN ?_ _|refine blk_drew ?_|refine blk_alloc ?_ _));refine blk_put (cs := #[.string ((rd_T31 t2 x18_1).f0), .string ((rd_T31 t2 x18_1).f1), .int .i64 ((rd_T31 t2 x18_1).f2.f0), .int .i64 ((rd_T31 t2 x18_1).f2.f1), .int .i64 ((rd_T31 t2 x18_1).f2.f2), .int .i64 0, .int .i64 0, .int .i64 0, .int .i64 0, .int .i64 0, .int .i64 0, .int .i64 0]) ?_ 5 _ rfl;(with_reducible repeat (first|refine blk_drewN ?_ _|refine blk_drew ?_|refine blk_alloc ?_ _));refine blk_put (cs := #[.string ((rd_T31 t2 x18_1).f0), .string ((rd_T31 t2 x18_1).f1), .int .i64 ((rd_T31 t2 x18_1).f2.f0), .int .i64 ((rd_T31 t2 x18_1).f2.f1), .int .i64 0, .int .i64 0, .int .i64 0, .int .i64 0, .int .i64 0, .int .i64 0, .int .i64 0, .int .i64 0]) ?_ 4 _ rfl;(with_reducible repeat (first|refine blk_drewN ?_ _|refine blk_drew ?_|refine blk_alloc ?_ _));refine blk_put (cs := #[.string ((rd_T31 t2 x18_1).f0), .string ((rd_T31 t2 x18_1).f1), .int .i64 ((rd_T31 t2 x18_1).f2.f0), .int .i64 0, .int .i64 0, .int .i64 0, .int .i64 0, .int .i64 0, .int .i64 0, .int .i64 0, .int .i64 0, .int .i64 0]) ?_ 3 _ rfl;(with_reducible repeat (first|refine blk_drewN ?_ _|refine blk_drew ?_|refine blk_alloc ?_ _));refine blk_put (cs := #[.string ((rd_T31 t2 x18_1).f0), .string ((rd_T31 t2 x18_1).f1), .int .i64 0, .int .i64 0, .int .i64 0, .int .i64 0, .int .i64 0, .int .i64 0, .int .i64 0, .int .i64 0, .int .i64 0, .int .i64 0]) ?_ 2 _ rfl;(with_reducible repeat (first|refine blk_drewN ?_ _|refine blk_drew ?_|refine blk_alloc ?_ _));refine blk_put (cs := #[.string ((rd_T31 t2 x18_1).f0), .string (⟨#[]⟩ : ByteArray), .int .i64 0, .int .i64 0, .int .i64 0, .int .i64 0, .int .i64 0, .int .i64 0, .int .i64 0, .int .i64 0, .int .i64 0, .int .i64 0]) ?_ 1 _ rfl;(with_reducible repeat (first|refine blk_drewN ?_ _|refine blk_drew ?_|refine blk_alloc ?_ _));refine blk_put (cs := #[.string (⟨#[]⟩ : ByteArray), .string (⟨#[]⟩ : ByteArray), .int .i64 0, .int .i64 0, .int .i64 0, .int .i64 0, .int .i64 0, .int .i64 0, .int .i64 0, .int .i64 0, .int .i64 0, .int .i64 0]) ?_ 0 _ rfl;(with_reducible repeat (first|refine blk_drewN ?_ _|refine blk_drew ?_|refine blk_alloc ?_ _));exact BK10.out) hb);have n5_ := Aside0.mk (below_step (by repeat (first|(with_reducible first|exact HB.out|apply below_alloc|apply pw_below_drewN|apply below_drew1|refine below_set ?_ GE1.out|refine below_set ?_ GE8.out|refine below_set ?_ GE10.out)|exact HB.out)) hb);clear HO_16;clear HO_9000;clear BK1;clear BK8;clear BK10;clear HB;have HO_16 := n0_;have HO_9000 := n1_;have BK1 := n2_;have BK8 := n3_;have BK10 := n4_;have HB := n5_;clear n0_ n1_ n2_ n3_ n4_ n5_;(try clear hb);(try clear hb2);(try clear hk);(try clear hi))|((with_reducible refine gate_dst (N := 8) rfl ?_);refine box_event ?hg (N := 8) ?hd (cs := #[.int .i64 0, .int .i64 0, .int .i64 0]) (t := 27) ?hr ?_;(case hd => rfl);(case hg => rfl);(case hr => first|(go_simp;done)|(go_simp;rfl));intro gb14 hg w24 hbox hb;have n0_ := Aside0.mk (Kd.R_below (by (with_reducible repeat (first|apply Kd.R_alloc|apply Kd.R_drewN|apply Kd.R_drew));exact HO_16.out) hb);have n1_ := Aside0.mk (Kd.R_below (by (with_reducible repeat (first|apply Kd.R_alloc|apply Kd.R_drewN|apply Kd.R_drew));exact HO_9000.out) hb);have n2_ := Aside0.mk (blk_below (g := gb1) (o := .cells #[.slice none 0 0, .int .i64 0, .int .i64 0, .int .i64 0] 127 (0, 0)) (by (with_reducible repeat (first|refine blk_drewN ?_ _|refine blk_drew ?_|refine blk_alloc ?_ _));exact BK1.out) hb);have n3_ := Aside0.mk (blk_below (g := gb8) (o := .cells #[.slice (some ad9) t2.length co8, .int .i64 x9001_1, .int .i64 x9002_1, .int .i64 x9003_1] 127 (0, 0)) (by (with_reducible repeat (first|refine blk_drewN ?_ _|refine blk_drew ?_|refine blk_alloc ?_ _));exact BK8.out) hb);have n4_ := Aside0.mk (blk_below (g := gb10) (o := .cells #[.string ((rd_T31 t2 x18_1).f0), .string ((rd_T31 t2 x18_1).f1), .int .i64 ((rd_T31 t2 x18_1).f2.f0), .int .i64 ((rd_T31 t2 x18_1).f2.f1), .int .i64 ((rd_T31 t2 x18_1).f2.f2), .int .i64 ((rd_T31 t2 x18_1).f3.f0), .int .i64 ((rd_T31 t2 x18_1).f3.f1), .int .i64 ((rd_T31 t2 x18_1).f3.f2), .int .i64 ((rd_T31 t2 x18_1).f4.f0), .int .i64 ((rd_T31 t2 x18_1).f4.f1), .int .i64 ((rd_T31 t2 x18_1).f4.f2), .int .i64 ((rd_T31 t2 x18_1).f5)] 31 (0, 0)) (by (with_reducible repeat (first|refine blk_drewN ?_ _|refine blk_drew ?_|refine blk_alloc ?_ _));exact BK10.out) hb);have n5_ := Aside0.mk (below_step (by repeat (first|(with_reducible first|exact HB.out|apply below_alloc|apply pw_below_drewN|apply below_drew1|refine below_set ?_ GE1.out|refine below_set ?_ GE8.out|refine below_set ?_ GE10.out)|exact HB.out)) hb);have n6_ := Aside0.mk (hbox);have n7_ := Aside0.mk ((by rw [hg];exact (below_size (by repeat (first|(with_reducible first|exact HB.out|apply below_alloc|apply pw_below_drewN|apply below_drew1|refine below_set ?_ GE1.out|refine below_set ?_ GE8.out|refine below_set ?_ GE10.out)|exact HB.out))) : w.heap.size ≤ gb14));have n8_ := Aside0.mk ((by rw [hg];exact (below_size (by repeat (first|(with_reducible first|exact HB.out|apply below_alloc|apply pw_below_drewN|apply below_drew1|refine below_set ?_ GE1.out|refine below_set ?_ GE8.out|refine below_set ?_ GE10.out)|exact HB.out))) : w.heap.size ≤ gb14));have n9_ := Aside0.mk ((by rw [hg];exact Nat.ne_of_lt (blk_lt (g := gb1) (o := .cells #[.slice none 0 0, .int .i64 0, .int .i64 0, .int .i64 0] 127 (0, 0)) (by (with_reducible repeat (first|refine blk_drewN ?_ _|refine blk_drew ?_|refine blk_alloc ?_ _));exact BK1.out)) : gb1 ≠ gb14));have n10_ := Aside0.mk ((by rw [hg];exact Nat.ne_of_gt (blk_lt (g := gb1) (o := .cells #[.slice none 0 0, .int .i64 0, .int .i64 0, .int .i64 0] 127 (0, 0)) (by (with_reducible repeat (first|refine blk_drewN ?_ _|refine blk_drew ?_|refine blk_alloc ?_ _));exact BK1.out)) : gb14 ≠ gb1));have n11_ := Aside0.mk ((by rw [hg];exact Nat.ne_of_lt (blk_lt (g := gb8) (o := .cells #[.slice (some ad9) t2.length co8, .int .i64 x9001_1, .int .i64 x9002_1, .int .i64 x9003_1] 127 (0, 0)) (by (with_reducible repeat (first|refine blk_drewN ?_ _|refine blk_drew ?_|refine blk_alloc ?_ _));exact BK8.out)) : gb8 ≠ gb14));have n12_ := Aside0.mk ((by rw [hg];exact Nat.ne_of_gt (blk_lt (g := gb8) (o := .cells #[.slice (some ad9) t2.length co8, .int .i64 x9001_1, .int .i64 x9002_1, .int .i64 x9003_1] 127 (0, 0)) (by (with_reducible repeat (first|refine blk_drewN ?_ _|refine blk_drew ?_|refine blk_alloc ?_ _));exact BK8.out)) : gb14 ≠ gb8));have n13_ := Aside0.mk ((by rw [hg];exact Nat.ne_of_lt (blk_lt (g := gb10) (o := .cells #[.string ((rd_T31 t2 x18_1).f0), .string ((rd_T31 t2 x18_1).f1), .int .i64 ((rd_T31 t2 x18_1).f2.f0), .int .i64 ((rd_T31 t2 x18_1).f2.f1), .int .i64 ((rd_T31 t2 x18_1).f2.f2), .int .i64 ((rd_T31 t2 x18_1).f3.f0), .int .i64 ((rd_T31 t2 x18_1).f3.f1), .int .i64 ((rd_T31 t2 x18_1).f3.f2), .int .i64 ((rd_T31 t2 x18_1).f4.f0), .int .i64 ((rd_T31 t2 x18_1).f4.f1), .int .i64 ((rd_T31 t2 x18_1).f4.f2), .int .i64 ((rd_T31 t2 x18_1).f5)] 31 (0, 0)) (by (with_reducible repeat (first|refine blk_drewN ?_ _|refine blk_drew ?_|refine blk_alloc ?_ _));exact BK10.out)) : gb10 ≠ gb14));have n14_ := Aside0.mk ((by rw [hg];exact Nat.ne_of_gt (blk_lt (g := gb10) (o := .cells #[.string ((rd_T31 t2 x18_1).f0), .string ((rd_T31 t2 x18_1).f1), .int .i64 ((rd_T31 t2 x18_1).f2.f0), .int .i64 ((rd_T31 t2 x18_1).f2.f1), .int .i64 ((rd_T31 t2 x18_1).f2.f2), .int .i64 ((rd_T31 t2 x18_1).f3.f0), .int .i64 ((rd_T31 t2 x18_1).f3.f1), .int .i64 ((rd_T31 t2 x18_1).f3.f2), .int .i64 ((rd_T31 t2 x18_1).f4.f0), .int .i64 ((rd_T31 t2 x18_1).f4.f1), .int .i64 ((rd_T31 t2 x18_1).f4.f2), .int .i64 ((rd_T31 t2 x18_1).f5)] 31 (0, 0)) (by (with_reducible repeat (first|refine blk_drewN ?_ _|refine blk_drew ?_|refine blk_alloc ?_ _));exact BK10.out)) : gb14 ≠ gb10));clear HO_16;clear HO_9000;clear BK1;clear BK8;clear BK10;clear HB;have HO_16 := n0_;have HO_9000 := n1_;have BK1 := n2_;have BK8 := n3_;have BK10 := n4_;have HB := n5_;have BK14 := n6_;have GW14 := n7_;have GE14 := n8_;have NB1_14 := n9_;have NB14_1 := n10_;have NB8_14 := n11_;have NB14_8 := n12_;have NB10_14 := n13_;have NB14_10 := n14_;clear n0_ n1_ n2_ n3_ n4_ n5_ n6_ n7_ n8_ n9_ n10_ n11_ n12_ n13_ n14_;clear hb hbox hg;have hnb25 := NB14_1.out;have hnc25 := NB1_14.out;have hnb26 := NB14_8.out;have hnc26 := NB8_14.out;have hnb27 := NB14_10.out;have hnc27 := NB10_14.out;have hcz28_0 : w24.cell? ⟨gb14, 0, none⟩ = some (.int .i64 0) := (blk_cell BK14.out 0).trans rfl;have hcz28_1 : w24.cell? ⟨gb14, 1, none⟩ = some (.int .i64 0) := (blk_cell BK14.out 1).trans rfl;have hcz28_2 : w24.cell? ⟨gb14, 2, none⟩ = some (.int .i64 0) := (blk_cell BK14.out 2).trans rfl;have hfz28_0 := blk_frozen BK14.out 0;have hfz28_1 := blk_frozen BK14.out 1;have hfz28_2 := blk_frozen BK14.out 2))
      have n0_ : Aside0 (Kd.R k31 31 (((w24.setCell ⟨gb14, 0, none⟩ (.int .i64 t11)).setCell ⟨gb14, 1, none⟩ (.int .i64 t12)).setCell ⟨gb14, 2, none⟩ (.int .i64 t13)) w.heap.size (fun k_ => k_ ≠ gb10) (.slice (some ad9) t2.length co8) t2) := ⟨by (with_reducible repeat (first|apply Kd.R_alloc|apply Kd.R_drewN|apply Kd.R_drew));exact Kd.R_mono (Kd.R_far (p := ⟨gb14, 2, none⟩) (Kd.R_far (p := ⟨gb14, 1, none⟩) (Kd.R_far (p := ⟨gb14, 0, none⟩) (Kd.R_types HO_16.out BK14.out (by decide)) (fun _ hk => hk.2) (.int .i64 t11)) (fun _ hk => hk.2) (.int .i64 t12)) (fun _ hk => hk.2) (.int .i64 t13)) (fun _ hk => hk.1.2)⟩
      have n1_ : Aside0 (Kd.R k31 31 (((w24.setCell ⟨gb14, 0, none⟩ (.int .i64 t11)).setCell ⟨gb14, 1, none⟩ (.int .i64 t12)).setCell ⟨gb14, 2, none⟩ (.int .i64 t13)) w.heap.size (fun k_ => k_ ≠ gb10) (.slice (some ad9) t2.length co8) t2) := ⟨by (with_reducible repeat (first|apply Kd.R_alloc|apply Kd.R_drewN|apply Kd.R_drew));exact Kd.R_mono (Kd.R_far (p := ⟨gb14, 2, none⟩) (Kd.R_far (p := ⟨gb14, 1, none⟩) (Kd.R_far (p := ⟨gb14, 0, none⟩) (Kd.R_types HO_9000.out BK14.out (by decide)) (fun _ hk => hk.2) (.int .i64 t11)) (fun _ hk => hk.2) (.int .i64 t12)) (fun _ hk => hk.2) (.int .i64 t13)) (fun _ hk => hk.1.2)⟩
      have n2_ : Aside0 ((((w24.setCell ⟨gb14, 0, none⟩ (.int .i64 t11)).setCell ⟨gb14, 1, none⟩ (.int .i64 t12)).setCell ⟨gb14, 2, none⟩ (.int .i64 t13)).heap[gb1]? = some (.cells #[.slice none 0 0, .int .i64 0, .int .i64 0, .int .i64 0] 127 (0, 0))) := ⟨by (with_reducible repeat (first|refine blk_drewN ?_ _|refine blk_drew ?_|refine blk_alloc ?_ _));refine blk_far ?_ NB1_14.out _;(with_reducible repeat (first|refine blk_drewN ?_ _|refine blk_drew ?_|refine blk_alloc ?_ _));refine blk_far ?_ NB1_14.out _;(with_reducible repeat (first|refine blk_drewN ?_ _|refine blk_drew ?_|refine blk_alloc ?_ _));refine blk_far ?_ NB1_14.out _;(with_reducible repeat (first|refine blk_drewN ?_ _|refine blk_drew ?_|refine blk_alloc ?_ _));exact BK1.out⟩
      have n3_ : Aside0 ((((w24.setCell ⟨gb14, 0, none⟩ (.int .i64 t11)).setCell ⟨gb14, 1, none⟩ (.int .i64 t12)).setCell ⟨gb14, 2, none⟩ (.int .i64 t13)).heap[gb8]? = some (.cells #[.slice (some ad9) t2.length co8, .int .i64 x9001_1, .int .i64 x9002_1, .int .i64 x9003_1] 127 (0, 0))) := ⟨by (with_reducible repeat (first|refine blk_drewN ?_ _|refine blk_drew ?_|refine blk_alloc ?_ _));refine blk_far ?_ NB8_14.out _;(with_reducible repeat (first|refine blk_drewN ?_ _|refine blk_drew ?_|refine blk_alloc ?_ _));refine blk_far ?_ NB8_14.out _;(with_reducible repeat (first|refine blk_drewN ?_ _|refine blk_drew ?_|refine blk_alloc ?_ _));refine blk_far ?_ NB8_14.out _;(with_reducible repeat (first|refine blk_drewN ?_ _|refine blk_drew ?_|refine blk_alloc ?_ _));exact BK8.out⟩
      have n4_ : Aside0 ((((w24.setCell ⟨gb14, 0, none⟩ (.int .i64 t11)).setCell ⟨gb14, 1, none⟩ (.int .i64 t12)).setCell ⟨gb14, 2, none⟩ (.int .i64 t13)).heap[gb10]? = some (.cells #[.string ((rd_T31 t2 x18_1).f0), .string ((rd_T31 t2 x18_1).f1), .int .i64 ((rd_T31 t2 x18_1).f2.f0), .int .i64 ((rd_T31 t2 x18_1).f2.f1), .int .i64 ((rd_T31 t2 x18_1).f2.f2), .int .i64 ((rd_T31 t2 x18_1).f3.f0), .int .i64 ((rd_T31 t2 x18_1).f3.f1), .int .i64 ((rd_T31 t2 x18_1).f3.f2), .int .i64 ((rd_T31 t2 x18_1).f4.f0), .int .i64 ((rd_T31 t2 x18_1).f4.f1), .int .i64 ((rd_T31 t2 x18_1).f4.f2), .int .i64 ((rd_T31 t2 x18_1).f5)] 31 (0, 0))) := ⟨by (with_reducible repeat (first|refine blk_drewN ?_ _|refine blk_drew ?_|refine blk_alloc ?_ _));refine blk_far ?_ NB10_14.out _;(with_reducible repeat (first|refine blk_drewN ?_ _|refine blk_drew ?_|refine blk_alloc ?_ _));refine blk_far ?_ NB10_14.out _;(with_reducible repeat (first|refine blk_drewN ?_ _|refine blk_drew ?_|refine blk_alloc ?_ _));refine blk_far ?_ NB10_14.out _;(with_reducible repeat (first|refine blk_drewN ?_ _|refine blk_drew ?_|refine blk_alloc ?_ _));exact BK10.out⟩
      have n5_ : Aside0 ((((w24.setCell ⟨gb14, 0, none⟩ (.int .i64 t11)).setCell ⟨gb14, 1, none⟩ (.int .i64 t12)).setCell ⟨gb14, 2, none⟩ (.int .i64 t13)).heap[gb14]? = some (.cells #[.int .i64 t11, .int .i64 t12, .int .i64 t13] 27 (0, 0))) := ⟨by (with_reducible repeat (first|refine blk_drewN ?_ _|refine blk_drew ?_|refine blk_alloc ?_ _));refine blk_put (cs := #[.int .i64 t11, .int .i64 t12, .int .i64 0]) ?_ 2 _ rfl;(with_reducible repeat (first|refine blk_drewN ?_ _|refine blk_drew ?_|refine blk_alloc ?_ _));refine blk_put (cs := #[.int .i64 t11, .int .i64 0, .int .i64 0]) ?_ 1 _ rfl;(with_reducible repeat (first|refine blk_drewN ?_ _|refine blk_drew ?_|refine blk_alloc ?_ _));refine blk_put (cs := #[.int .i64 0, .int .i64 0, .int .i64 0]) ?_ 0 _ rfl;(with_reducible repeat (first|refine blk_drewN ?_ _|refine blk_drew ?_|refine blk_alloc ?_ _));exact BK14.out⟩
      have n6_ : Aside0 (Below w.heap.size w (((w24.setCell ⟨gb14, 0, none⟩ (.int .i64 t11)).setCell ⟨gb14, 1, none⟩ (.int .i64 t12)).setCell ⟨gb14, 2, none⟩ (.int .i64 t13))) := ⟨by repeat (first|(with_reducible first|exact HB.out|apply below_alloc|apply pw_below_drewN|apply below_drew1|refine below_set ?_ GE1.out|refine below_set ?_ GE8.out|refine below_set ?_ GE10.out|refine below_set ?_ GE14.out)|exact HB.out)⟩
      (try clear HO_16)
      (try clear HO_9000)
      (try clear BK1)
      (try clear BK8)
      (try clear BK10)
      (try clear BK14)
      (try clear HB)
      generalize (((w24.setCell ⟨gb14, 0, none⟩ (.int .i64 t11)).setCell ⟨gb14, 1, none⟩ (.int .i64 t12)).setCell ⟨gb14, 2, none⟩ (.int .i64 t13)) = w29 at n0_ n1_ n2_ n3_ n4_ n5_ n6_ ⊢
      have HO_16 := n0_
      have HO_9000 := n1_
      have BK1 := n2_
      have BK8 := n3_
      have BK10 := n4_
      have BK14 := n5_
      have HB := n6_
      clear n0_ n1_ n2_ n3_ n4_ n5_ n6_
      have n0_ := Aside0.mk (Kd.R_drew HO_16.out)
      have n1_ := Aside0.mk (Kd.R_drew HO_9000.out)
      have n2_ := Aside0.mk (blk_drew BK1.out)
      have n3_ := Aside0.mk (blk_drew BK8.out)
      have n4_ := Aside0.mk (blk_drew BK10.out)
      have n5_ := Aside0.mk (blk_drew BK14.out)
      have n6_ := Aside0.mk (below_drew1 HB.out)
      clear HO_16
      clear HO_9000
      clear BK1
      clear BK8
      clear BK10
      clear BK14
      clear HB
      have HO_16 := n0_
      have HO_9000 := n1_
      have BK1 := n2_
      have BK8 := n3_
      have BK10 := n4_
      have BK14 := n5_
      have HB := n6_
      clear n0_ n1_ n2_ n3_ n4_ n5_ n6_
      refine start_ (n := 13) (S := fun w' => w'.cell? ⟨gb8, 0, none⟩ = some (.slice (some ad9) t2.length co8) ∧ w'.cell? ⟨gb8, 1, none⟩ = some (.int .i64 x9001_1) ∧ w'.cell? ⟨gb8, 2, none⟩ = some (.int .i64 x9002_1) ∧ w'.cell? ⟨gb8, 3, none⟩ = some (.int .i64 x9003_1) ∧ w'.cell? ⟨gb14, 0, none⟩ = some (.int .i64 t11) ∧ w'.cell? ⟨gb14, 1, none⟩ = some (.int .i64 t12) ∧ w'.cell? ⟨gb14, 2, none⟩ = some (.int .i64 t13)) (ds := [12]) #[false, false, false, false, false, false, false, false, false, false, false, false, false] (by kernel_rfl) rfl rfl ⟨(blk_cell BK8.out 0).trans rfl, (blk_cell BK8.out 1).trans rfl, (blk_cell BK8.out 2).trans rfl, (blk_cell BK8.out 3).trans rfl, (blk_cell BK14.out 0).trans rfl, (blk_cell BK14.out 1).trans rfl, (blk_cell BK14.out 2).trans rfl⟩ (fun hHeld => ?_); refine with_tabW room_made.tab6 room_made.bits6 (fun HT_ HW_ => ?_)
      generalize w29.drew = w30 at HO_16 HO_9000 BK1 BK8 BK10 BK14 HB hHeld ⊢
      refine pure_ (i := 0) (N := some 24) (v := ?_) (a' := ?_) #[true, false, false, false, false, false, false, false, false, false, false, false, false] rfl rfl (any_of HT_.out (by kernel_rfl)) (fun _ _ _ h => h) (Or.inl ⟨by rfl, ?_⟩) ?_ ?_
      rotate_left
      ·intro w'
       go_simp
       with_reducible rfl
      rotate_left
      ·simp only [Act.put, List.setIfInBounds_toArray, List.set_cons_zero, List.set_cons_succ, i64_w, i32_w]
       rfl
      refine pure_ (i := 5) (N := some 29) (v := ?_) (a' := ?_) #[true, false, false, false, false, true, false, false, false, false, false, false, false] rfl rfl (any_of HT_.out (by kernel_rfl)) (fun _ _ _ h => h) (Or.inl ⟨by rfl, ?_⟩) ?_ ?_
      rotate_left
      ·intro w'
       go_simp
       with_reducible rfl
      rotate_left
      ·simp only [Act.put, List.setIfInBounds_toArray, List.set_cons_zero, List.set_cons_succ, i64_w, i32_w]
       rfl
      refine take_ (i := 1) (N := some 25) (v := ?_) (a' := ?_) #[true, true, false, false, false, true, false, false, false, false, false, false, false] rfl rfl (take_ofW HT_.out HW_.out (by kernel_rfl)) (fun _ _ _ h => h) (Or.inl ⟨by rfl, ?_⟩) hHeld ?_ ?_
      rotate_left
      ·rintro w' ⟨s0, s1, s2, s3, s4, s5, s6⟩
       go_simp
       with_reducible rfl
      rotate_left
      ·simp only [Act.put, List.setIfInBounds_toArray, List.set_cons_zero, List.set_cons_succ, i64_w, i32_w]
       rfl
      refine take_ (i := 2) (N := some 26) (v := ?_) (a' := ?_) #[true, true, true, false, false, true, false, false, false, false, false, false, false] rfl rfl (take_ofW HT_.out HW_.out (by kernel_rfl)) (fun _ _ _ h => h) (Or.inl ⟨by rfl, ?_⟩) hHeld ?_ ?_
      rotate_left
      ·rintro w' ⟨s0, s1, s2, s3, s4, s5, s6⟩
       go_simp
       with_reducible rfl
      rotate_left
      ·simp only [Act.put, List.setIfInBounds_toArray, List.set_cons_zero, List.set_cons_succ, i64_w, i32_w]
       rfl
      refine take_ (i := 6) (N := some 30) (v := ?_) (a' := ?_) #[true, true, true, false, false, true, true, false, false, false, false, false, false] rfl rfl (take_ofW HT_.out HW_.out (by kernel_rfl)) (fun _ _ _ h => h) (Or.inl ⟨by rfl, ?_⟩) hHeld ?_ ?_
      rotate_left
      ·rintro w' ⟨s0, s1, s2, s3, s4, s5, s6⟩
       go_simp
       with_reducible rfl
      rotate_left
      ·simp only [Act.put, List.setIfInBounds_toArray, List.set_cons_zero, List.set_cons_succ, i64_w, i32_w]
       rfl
      refine take_ (i := 7) (N := some 31) (v := ?_) (a' := ?_) #[true, true, true, false, false, true, true, true, false, false, false, false, false] rfl rfl (take_ofW HT_.out HW_.out (by kernel_rfl)) (fun _ _ _ h => h) (Or.inl ⟨by rfl, ?_⟩) hHeld ?_ ?_
      rotate_left
      ·rintro w' ⟨s0, s1, s2, s3, s4, s5, s6⟩
       go_simp
       with_reducible rfl
      rotate_left
      ·simp only [Act.put, List.setIfInBounds_toArray, List.set_cons_zero, List.set_cons_succ, i64_w, i32_w]
       rfl
      refine join_ (σ := Value × Value) 4 #[true, true, true, true, true, true, true, true, true, false, false, false, false] (fun s_ => [(27, s_.1), (28, .agg #[.int .i64 t18, .int .i64 t19, .int .i64 t20]), (32, s_.2)]) (fun s_ w' => (w'.cell? ⟨gb8, 0, none⟩ = some (.slice (some ad9) t2.length co8) ∧ w'.cell? ⟨gb8, 1, none⟩ = some (.int .i64 x9001_1) ∧ w'.cell? ⟨gb8, 2, none⟩ = some (.int .i64 x9002_1) ∧ w'.cell? ⟨gb8, 3, none⟩ = some (.int .i64 x9003_1) ∧ w'.cell? ⟨gb14, 0, none⟩ = some (.int .i64 t11) ∧ w'.cell? ⟨gb14, 1, none⟩ = some (.int .i64 t12) ∧ w'.cell? ⟨gb14, 2, none⟩ = some (.int .i64 t13)) ∧ (Kd.R k27 27 w' w.heap.size (fun k_ => some k_ ≠ (s_.2 : Value).ownBlock ∧ k_ ≠ gb14) s_.1 y15) ∧ (Kd.R k27 27 w' w.heap.size (fun k_ => some k_ ≠ (s_.1 : Value).ownBlock ∧ k_ ≠ gb14) s_.2 y21) ∧ (Kd.R k31 31 w' w.heap.size (fun k_ => k_ ≠ gb10) (.slice (some ad9) t2.length co8) t2) ∧ (Kd.R k31 31 w' w.heap.size (fun k_ => k_ ≠ gb10) (.slice (some ad9) t2.length co8) t2) ∧ (w'.heap[gb1]? = some (.cells #[.slice none 0 0, .int .i64 0, .int .i64 0, .int .i64 0] 127 (0, 0))) ∧ (w'.heap[gb10]? = some (.cells #[.string ((rd_T31 t2 x18_1).f0), .string ((rd_T31 t2 x18_1).f1), .int .i64 ((rd_T31 t2 x18_1).f2.f0), .int .i64 ((rd_T31 t2 x18_1).f2.f1), .int .i64 ((rd_T31 t2 x18_1).f2.f2), .int .i64 ((rd_T31 t2 x18_1).f3.f0), .int .i64 ((rd_T31 t2 x18_1).f3.f1), .int .i64 ((rd_T31 t2 x18_1).f3.f2), .int .i64 ((rd_T31 t2 x18_1).f4.f0), .int .i64 ((rd_T31 t2 x18_1).f4.f1), .int .i64 ((rd_T31 t2 x18_1).f4.f2), .int .i64 ((rd_T31 t2 x18_1).f5)] 31 (0, 0))) ∧ (w'.heap[gb14]? = some (.cells #[.int .i64 t11, .int .i64 t12, .int .i64 t13] 27 (0, 0))) ∧ (w'.heap[gb8]? = some (.cells #[.slice (some ad9) t2.length co8, .int .i64 x9001_1, .int .i64 x9002_1, .int .i64 x9003_1] 127 (0, 0))) ∧ (Below w.heap.size w w')) ?_ ?_
      rotate_left
      ·intro hCont
       refine two_ (i := 3) (j := 8) (Ni := some 27) (Nj := some 32) #[true, true, true, true, false, true, true, true, false, false, false, false, false] #[true, true, true, false, false, true, true, true, true, false, false, false, false] rfl rfl rfl rfl (two_of HT_.out (by kernel_rfl)) (by decide) (by decide) (fun K hK => ?_) (fun K hK => ?_)
       ·skip
        refine Kd.R_lit_step k27 _ 27 ?hg (N := 27) ?hd (xs := ([(⟨x9001_1, x9002_1, x9003_1⟩ : S27), (⟨t11, t12, t13⟩ : S27)] : List (S27))) (inner := [.int .i64 x9001_1, .int .i64 x9002_1, .int .i64 x9003_1, .int .i64 t11, .int .i64 t12, .int .i64 t13]) (ok := fun _ => True) (okp := fun _ => True) ?hr ?hp (fun _ hk => hk) trivial (Below.refl _ _) (Nat.le_refl _) (by simp) ?_; (case hd => rfl); (case hg => rfl); (case hr => first | (go_simp; done) | (go_simp; rfl)); (case hp => exact (Reps.c3 (show Kd.M k27 _ _ _ (⟨x9001_1, x9002_1, x9003_1⟩ : S27) [.int .i64 x9001_1, .int .i64 x9002_1, .int .i64 x9003_1] from (k27_mkM _ _ _ (⟨x9001_1, x9002_1, x9003_1⟩ : S27) )) (Reps.c3 (show Kd.M k27 _ _ _ (⟨t11, t12, t13⟩ : S27) [.int .i64 t11, .int .i64 t12, .int .i64 t13] from (k27_mkM _ _ _ (⟨t11, t12, t13⟩ : S27) )) (Reps.none _ _))))
        intro v16 w31 ho32 hb hg_ hnew_
        clear hg_ hnew_
        (first | rw [← Ny15.out] at ho32 | (simp only [Int.reduceToNat] at ho32; rw [← Ny15.out] at ho32))
        have n0_ := Aside0.mk (Kd.R_below (by (with_reducible repeat (first|apply Kd.R_alloc|apply Kd.R_drewN|apply Kd.R_drew));exact HO_16.out) hb)
        have n1_ := Aside0.mk (Kd.R_below (by (with_reducible repeat (first|apply Kd.R_alloc|apply Kd.R_drewN|apply Kd.R_drew));exact HO_9000.out) hb)
        have n2_ := Aside0.mk (Kd.R_lower (Kd.R_newB ho32 (g := gb14) (o := .cells #[.int .i64 t11, .int .i64 t12, .int .i64 t13] 27 (0, 0)) (by (with_reducible repeat (first|refine blk_drewN ?_ _|refine blk_drew ?_|refine blk_alloc ?_ _));exact BK14.out)) (below_size (by repeat (first|(with_reducible first|exact HB.out|apply below_alloc|apply pw_below_drewN|apply below_drew1|refine below_set ?_ GE1.out|refine below_set ?_ GE8.out|refine below_set ?_ GE10.out|refine below_set ?_ GE14.out)|exact HB.out))))
        have n3_ := Aside0.mk (blk_below (g := gb1) (o := .cells #[.slice none 0 0, .int .i64 0, .int .i64 0, .int .i64 0] 127 (0, 0)) (by (with_reducible repeat (first|refine blk_drewN ?_ _|refine blk_drew ?_|refine blk_alloc ?_ _));exact BK1.out) hb)
        have n4_ := Aside0.mk (blk_below (g := gb8) (o := .cells #[.slice (some ad9) t2.length co8, .int .i64 x9001_1, .int .i64 x9002_1, .int .i64 x9003_1] 127 (0, 0)) (by (with_reducible repeat (first|refine blk_drewN ?_ _|refine blk_drew ?_|refine blk_alloc ?_ _));exact BK8.out) hb)
        have n5_ := Aside0.mk (blk_below (g := gb10) (o := .cells #[.string ((rd_T31 t2 x18_1).f0), .string ((rd_T31 t2 x18_1).f1), .int .i64 ((rd_T31 t2 x18_1).f2.f0), .int .i64 ((rd_T31 t2 x18_1).f2.f1), .int .i64 ((rd_T31 t2 x18_1).f2.f2), .int .i64 ((rd_T31 t2 x18_1).f3.f0), .int .i64 ((rd_T31 t2 x18_1).f3.f1), .int .i64 ((rd_T31 t2 x18_1).f3.f2), .int .i64 ((rd_T31 t2 x18_1).f4.f0), .int .i64 ((rd_T31 t2 x18_1).f4.f1), .int .i64 ((rd_T31 t2 x18_1).f4.f2), .int .i64 ((rd_T31 t2 x18_1).f5)] 31 (0, 0)) (by (with_reducible repeat (first|refine blk_drewN ?_ _|refine blk_drew ?_|refine blk_alloc ?_ _));exact BK10.out) hb)
        have n6_ := Aside0.mk (blk_below (g := gb14) (o := .cells #[.int .i64 t11, .int .i64 t12, .int .i64 t13] 27 (0, 0)) (by (with_reducible repeat (first|refine blk_drewN ?_ _|refine blk_drew ?_|refine blk_alloc ?_ _));exact BK14.out) hb)
        have n7_ := Aside0.mk (below_step (by repeat (first|(with_reducible first|exact HB.out|apply below_alloc|apply pw_below_drewN|apply below_drew1|refine below_set ?_ GE1.out|refine below_set ?_ GE8.out|refine below_set ?_ GE10.out|refine below_set ?_ GE14.out)|exact HB.out)) hb)
        clear HO_16
        clear HO_9000
        clear BK1
        clear BK8
        clear BK10
        clear BK14
        clear HB
        have HO_16 := n0_
        have HO_9000 := n1_
        have HO17 := n2_
        have BK1 := n3_
        have BK8 := n4_
        have BK10 := n5_
        have BK14 := n6_
        have HB := n7_
        clear n0_ n1_ n2_ n3_ n4_ n5_ n6_ n7_
        clear hb ho32
        obtain ⟨Ao33, co33, eo33⟩ := Kd.R_slice HO17.out
        (first | subst eo33 | (injection eo33 with f1_ f2_ f3_; have f4_ := f1_.symm; have f5_ := f3_.symm; clear f1_ f2_ f3_; subst f4_; subst f5_))
        refine hK.out _ _ ⟨(blk_cell BK8.out 0).trans rfl, (blk_cell BK8.out 1).trans rfl, (blk_cell BK8.out 2).trans rfl, (blk_cell BK8.out 3).trans rfl, (blk_cell BK14.out 0).trans rfl, (blk_cell BK14.out 1).trans rfl, (blk_cell BK14.out 2).trans rfl⟩ (fun hHeld => ?_)
        clear hK K
        refine norm_ (a' := ?_) ?_ ?_
        rotate_left
        ·show Act.put _ (some 27) _ = _
         simp only [Act.put, List.setIfInBounds_toArray, List.set_cons_zero, List.set_cons_succ, i64_w, i32_w]
         rfl
        refine two_ (i := 4) (j := 8) (Ni := some 28) (Nj := some 32) #[true, true, true, true, true, true, true, true, false, false, false, false, false] #[true, true, true, true, false, true, true, true, true, false, false, false, false] rfl rfl rfl rfl (two_of HT_.out (by kernel_rfl)) (by decide) (by decide) (fun K hK => ?_) (fun K hK => ?_)
        ·skip
         refine goes_ Try.func119 (by kernel_rfl) rfl #[.slice Ao33 y15.length co33] (by rfl) rfl rfl (by (try simp only [List.map_toArray, List.map_cons, List.map_nil]); first | done | rfl | (simp only [List.length_drop, List.length_take]; rfl)) ?_
         with_reducible refine (vec_Add.calls _ _ y15 t18 t19 t20 _ ?side1 ?side2 A16.out).mono ?_
         (case side1 => repeat (first|exact (Kd.R_reads' HO17.out).2.2|(with_reducible refine Kd.C_alloc ?_ _)|(with_reducible refine Kd.C_drewN ?_ _)|(with_reducible refine Kd.C_drew ?_)))
         (case side2 => exact (Kd.R_reads' HO17.out).2.1)
         rintro e w34 ⟨rfl, hb⟩
         refine ⟨_, rfl, ?_⟩
         have n0_ := Aside0.mk (Kd.R_below (by (with_reducible repeat (first|apply Kd.R_alloc|apply Kd.R_drewN|apply Kd.R_drew));exact HO_16.out) hb)
         have n1_ := Aside0.mk (Kd.R_below (by (with_reducible repeat (first|apply Kd.R_alloc|apply Kd.R_drewN|apply Kd.R_drew));exact HO_9000.out) hb)
         have n2_ := Aside0.mk (Kd.R_below (by (with_reducible repeat (first|apply Kd.R_alloc|apply Kd.R_drewN|apply Kd.R_drew));exact HO17.out) hb)
         have n3_ := Aside0.mk (blk_below (g := gb1) (o := .cells #[.slice none 0 0, .int .i64 0, .int .i64 0, .int .i64 0] 127 (0, 0)) (by (with_reducible repeat (first|refine blk_drewN ?_ _|refine blk_drew ?_|refine blk_alloc ?_ _));exact BK1.out) hb)
         have n4_ := Aside0.mk (blk_below (g := gb8) (o := .cells #[.slice (some ad9) t2.length co8, .int .i64 x9001_1, .int .i64 x9002_1, .int .i64 x9003_1] 127 (0, 0)) (by (with_reducible repeat (first|refine blk_drewN ?_ _|refine blk_drew ?_|refine blk_alloc ?_ _));exact BK8.out) hb)
         have n5_ := Aside0.mk (blk_below (g := gb10) (o := .cells #[.string ((rd_T31 t2 x18_1).f0), .string ((rd_T31 t2 x18_1).f1), .int .i64 ((rd_T31 t2 x18_1).f2.f0), .int .i64 ((rd_T31 t2 x18_1).f2.f1), .int .i64 ((rd_T31 t2 x18_1).f2.f2), .int .i64 ((rd_T31 t2 x18_1).f3.f0), .int .i64 ((rd_T31 t2 x18_1).f3.f1), .int .i64 ((rd_T31 t2 x18_1).f3.f2), .int .i64 ((rd_T31 t2 x18_1).f4.f0), .int .i64 ((rd_T31 t2 x18_1).f4.f1), .int .i64 ((rd_T31 t2 x18_1).f4.f2), .int .i64 ((rd_T31 t2 x18_1).f5)] 31 (0, 0)) (by (with_reducible repeat (first|refine blk_drewN ?_ _|refine blk_drew ?_|refine blk_alloc ?_ _));exact BK10.out) hb)
         have n6_ := Aside0.mk (blk_below (g := gb14) (o := .cells #[.int .i64 t11, .int .i64 t12, .int .i64 t13] 27 (0, 0)) (by (with_reducible repeat (first|refine blk_drewN ?_ _|refine blk_drew ?_|refine blk_alloc ?_ _));exact BK14.out) hb)
         have n7_ := Aside0.mk (below_step (by repeat (first|(with_reducible first|exact HB.out|apply below_alloc|apply pw_below_drewN|apply below_drew1|refine below_set ?_ GE1.out|refine below_set ?_ GE8.out|refine below_set ?_ GE10.out|refine below_set ?_ GE14.out)|exact HB.out)) hb)
         clear HO_16
         clear HO_9000
         clear HO17
         clear BK1
         clear BK8
         clear BK10
         clear BK14
         clear HB
         have HO_16 := n0_
         have HO_9000 := n1_
         have HO17 := n2_
         have BK1 := n3_
         have BK8 := n4_
         have BK10 := n5_
         have BK14 := n6_
         have HB := n7_
         clear n0_ n1_ n2_ n3_ n4_ n5_ n6_ n7_
         (try clear hb)
         (try clear hb2)
         (try clear hk)
         (try clear hi)
         refine hK.out _ _ ⟨(blk_cell BK8.out 0).trans rfl, (blk_cell BK8.out 1).trans rfl, (blk_cell BK8.out 2).trans rfl, (blk_cell BK8.out 3).trans rfl, (blk_cell BK14.out 0).trans rfl, (blk_cell BK14.out 1).trans rfl, (blk_cell BK14.out 2).trans rfl⟩ (fun hHeld => ?_)
         clear hK K
         refine norm_ (a' := ?_) ?_ ?_
         rotate_left
         ·show Act.put _ (some 28) _ = _
          simp only [Act.put, List.setIfInBounds_toArray, List.set_cons_zero, List.set_cons_succ, i64_w, i32_w]
          rfl
         refine one_ (i := 8) (N := some 32) #[true, true, true, true, true, true, true, true, true, false, false, false, false] rfl rfl (one_of HT_.out (by kernel_rfl)) (by decide) (fun K hK => ?_)
         refine Kd.R_lit_step k27 _ 27 ?hg (N := 32) ?hd (xs := ([(⟨x9001_1, x9002_1, x9003_1⟩ : S27), (⟨t11, t12, t13⟩ : S27)] : List (S27))) (inner := [.int .i64 x9001_1, .int .i64 x9002_1, .int .i64 x9003_1, .int .i64 t11, .int .i64 t12, .int .i64 t13]) (ok := fun _ => True) (okp := fun _ => True) ?hr ?hp (fun _ hk => hk) trivial (Below.refl _ _) (Nat.le_refl _) (by simp) ?_; (case hd => rfl); (case hg => rfl); (case hr => first | (go_simp; done) | (go_simp; rfl)); (case hp => exact (Reps.c3 (show Kd.M k27 _ _ _ (⟨x9001_1, x9002_1, x9003_1⟩ : S27) [.int .i64 x9001_1, .int .i64 x9002_1, .int .i64 x9003_1] from (k27_mkM _ _ _ (⟨x9001_1, x9002_1, x9003_1⟩ : S27) )) (Reps.c3 (show Kd.M k27 _ _ _ (⟨t11, t12, t13⟩ : S27) [.int .i64 t11, .int .i64 t12, .int .i64 t13] from (k27_mkM _ _ _ (⟨t11, t12, t13⟩ : S27) )) (Reps.none _ _))))
         intro v22 w35 ho36 hb hg_ hnew_
         clear hg_ hnew_
         (first | rw [← Ny21.out] at ho36 | (simp only [Int.reduceToNat] at ho36; rw [← Ny21.out] at ho36))
         have n0_ := Aside0.mk (Kd.R_below (by (with_reducible repeat (first|apply Kd.R_alloc|apply Kd.R_drewN|apply Kd.R_drew));exact HO_16.out) hb)
         have n1_ := Aside0.mk (Kd.R_below (by (with_reducible repeat (first|apply Kd.R_alloc|apply Kd.R_drewN|apply Kd.R_drew));exact HO_9000.out) hb)
         have n2_ := Aside0.mk (Kd.R_elder' (by (with_reducible repeat (first|apply Kd.R_alloc|apply Kd.R_drewN|apply Kd.R_drew));exact HO17.out) (Kd.R_base ho36) hb)
         have n3_ := Aside0.mk (Kd.R_lower (Kd.R_newB (Kd.R_new' ho36 (Kd.R_lt (by (with_reducible repeat (first|apply Kd.R_alloc|apply Kd.R_drewN|apply Kd.R_drew));exact HO17.out))) (g := gb14) (o := .cells #[.int .i64 t11, .int .i64 t12, .int .i64 t13] 27 (0, 0)) (by (with_reducible repeat (first|refine blk_drewN ?_ _|refine blk_drew ?_|refine blk_alloc ?_ _));exact BK14.out)) (below_size (by repeat (first|(with_reducible first|exact HB.out|apply below_alloc|apply pw_below_drewN|apply below_drew1|refine below_set ?_ GE1.out|refine below_set ?_ GE8.out|refine below_set ?_ GE10.out|refine below_set ?_ GE14.out)|exact HB.out))))
         have n4_ := Aside0.mk (blk_below (g := gb1) (o := .cells #[.slice none 0 0, .int .i64 0, .int .i64 0, .int .i64 0] 127 (0, 0)) (by (with_reducible repeat (first|refine blk_drewN ?_ _|refine blk_drew ?_|refine blk_alloc ?_ _));exact BK1.out) hb)
         have n5_ := Aside0.mk (blk_below (g := gb8) (o := .cells #[.slice (some ad9) t2.length co8, .int .i64 x9001_1, .int .i64 x9002_1, .int .i64 x9003_1] 127 (0, 0)) (by (with_reducible repeat (first|refine blk_drewN ?_ _|refine blk_drew ?_|refine blk_alloc ?_ _));exact BK8.out) hb)
         have n6_ := Aside0.mk (blk_below (g := gb10) (o := .cells #[.string ((rd_T31 t2 x18_1).f0), .string ((rd_T31 t2 x18_1).f1), .int .i64 ((rd_T31 t2 x18_1).f2.f0), .int .i64 ((rd_T31 t2 x18_1).f2.f1), .int .i64 ((rd_T31 t2 x18_1).f2.f2), .int .i64 ((rd_T31 t2 x18_1).f3.f0), .int .i64 ((rd_T31 t2 x18_1).f3.f1), .int .i64 ((rd_T31 t2 x18_1).f3.f2), .int .i64 ((rd_T31 t2 x18_1).f4.f0), .int .i64 ((rd_T31 t2 x18_1).f4.f1), .int .i64 ((rd_T31 t2 x18_1).f4.f2), .int .i64 ((rd_T31 t2 x18_1).f5)] 31 (0, 0)) (by (with_reducible repeat (first|refine blk_drewN ?_ _|refine blk_drew ?_|refine blk_alloc ?_ _));exact BK10.out) hb)
         have n7_ := Aside0.mk (blk_below (g := gb14) (o := .cells #[.int .i64 t11, .int .i64 t12, .int .i64 t13] 27 (0, 0)) (by (with_reducible repeat (first|refine blk_drewN ?_ _|refine blk_drew ?_|refine blk_alloc ?_ _));exact BK14.out) hb)
         have n8_ := Aside0.mk (below_step (by repeat (first|(with_reducible first|exact HB.out|apply below_alloc|apply pw_below_drewN|apply below_drew1|refine below_set ?_ GE1.out|refine below_set ?_ GE8.out|refine below_set ?_ GE10.out|refine below_set ?_ GE14.out)|exact HB.out)) hb)
         clear HO_16
         clear HO_9000
         clear HO17
         clear BK1
         clear BK8
         clear BK10
         clear BK14
         clear HB
         have HO_16 := n0_
         have HO_9000 := n1_
         have HO17 := n2_
         have HO23 := n3_
         have BK1 := n4_
         have BK8 := n5_
         have BK10 := n6_
         have BK14 := n7_
         have HB := n8_
         clear n0_ n1_ n2_ n3_ n4_ n5_ n6_ n7_ n8_
         clear hb ho36
         refine hK.out _ _ ⟨(blk_cell BK8.out 0).trans rfl, (blk_cell BK8.out 1).trans rfl, (blk_cell BK8.out 2).trans rfl, (blk_cell BK8.out 3).trans rfl, (blk_cell BK14.out 0).trans rfl, (blk_cell BK14.out 1).trans rfl, (blk_cell BK14.out 2).trans rfl⟩ (fun hHeld => ?_)
         clear hK K
         refine norm_ (a' := ?_) ?_ ?_
         rotate_left
         ·show Act.put _ (some 32) _ = _
          simp only [Act.put, List.setIfInBounds_toArray, List.set_cons_zero, List.set_cons_succ, i64_w, i32_w]
          rfl
         exact norm_ (by simp only [putAll, Act.put, List.setIfInBounds_toArray, List.set_cons_zero, List.set_cons_succ]) (hCont (.slice Ao33 y15.length co33, v22) _ ⟨hHeld, (by (with_reducible repeat (first|apply Kd.R_alloc|apply Kd.R_drewN|apply Kd.R_drew));exact Kd.R_mono HO17.out (fun _ hk => ⟨hk.2, hk.1.2⟩)), (by (with_reducible repeat (first|apply Kd.R_alloc|apply Kd.R_drewN|apply Kd.R_drew));exact Kd.R_mono HO23.out (fun _ hk => ⟨hk.1.2, hk.2⟩)), (by (with_reducible repeat (first|apply Kd.R_alloc|apply Kd.R_drewN|apply Kd.R_drew));exact HO_16.out), (by (with_reducible repeat (first|apply Kd.R_alloc|apply Kd.R_drewN|apply Kd.R_drew));exact HO_9000.out), (by (with_reducible repeat (first|refine blk_drewN ?_ _|refine blk_drew ?_|refine blk_alloc ?_ _));exact BK1.out), (by (with_reducible repeat (first|refine blk_drewN ?_ _|refine blk_drew ?_|refine blk_alloc ?_ _));exact BK10.out), (by (with_reducible repeat (first|refine blk_drewN ?_ _|refine blk_drew ?_|refine blk_alloc ?_ _));exact BK14.out), (by (with_reducible repeat (first|refine blk_drewN ?_ _|refine blk_drew ?_|refine blk_alloc ?_ _));exact BK8.out), (by repeat (first|(with_reducible first|exact HB.out|apply below_alloc|apply pw_below_drewN|apply below_drew1|refine below_set ?_ GE1.out|refine below_set ?_ GE8.out|refine below_set ?_ GE10.out|refine below_set ?_ GE14.out)|exact HB.out))⟩)
        ·skip
         refine Kd.R_lit_step k27 _ 27 ?hg (N := 32) ?hd (xs := ([(⟨x9001_1, x9002_1, x9003_1⟩ : S27), (⟨t11, t12, t13⟩ : S27)] : List (S27))) (inner := [.int .i64 x9001_1, .int .i64 x9002_1, .int .i64 x9003_1, .int .i64 t11, .int .i64 t12, .int .i64 t13]) (ok := fun _ => True) (okp := fun _ => True) ?hr ?hp (fun _ hk => hk) trivial (Below.refl _ _) (Nat.le_refl _) (by simp) ?_; (case hd => rfl); (case hg => rfl); (case hr => first | (go_simp; done) | (go_simp; rfl)); (case hp => exact (Reps.c3 (show Kd.M k27 _ _ _ (⟨x9001_1, x9002_1, x9003_1⟩ : S27) [.int .i64 x9001_1, .int .i64 x9002_1, .int .i64 x9003_1] from (k27_mkM _ _ _ (⟨x9001_1, x9002_1, x9003_1⟩ : S27) )) (Reps.c3 (show Kd.M k27 _ _ _ (⟨t11, t12, t13⟩ : S27) [.int .i64 t11, .int .i64 t12, .int .i64 t13] from (k27_mkM _ _ _ (⟨t11, t12, t13⟩ : S27) )) (Reps.none _ _))))
         intro v22 w33 ho34 hb hg_ hnew_
         clear hg_ hnew_
         (first | rw [← Ny21.out] at ho34 | (simp only [Int.reduceToNat] at ho34; rw [← Ny21.out] at ho34))
         have n0_ := Aside0.mk (Kd.R_below (by (with_reducible repeat (first|apply Kd.R_alloc|apply Kd.R_drewN|apply Kd.R_drew));exact HO_16.out) hb)
         have n1_ := Aside0.mk (Kd.R_below (by (with_reducible repeat (first|apply Kd.R_alloc|apply Kd.R_drewN|apply Kd.R_drew));exact HO_9000.out) hb)
         have n2_ := Aside0.mk (Kd.R_elder' (by (with_reducible repeat (first|apply Kd.R_alloc|apply Kd.R_drewN|apply Kd.R_drew));exact HO17.out) (Kd.R_base ho34) hb)
         have n3_ := Aside0.mk (Kd.R_lower (Kd.R_newB (Kd.R_new' ho34 (Kd.R_lt (by (with_reducible repeat (first|apply Kd.R_alloc|apply Kd.R_drewN|apply Kd.R_drew));exact HO17.out))) (g := gb14) (o := .cells #[.int .i64 t11, .int .i64 t12, .int .i64 t13] 27 (0, 0)) (by (with_reducible repeat (first|refine blk_drewN ?_ _|refine blk_drew ?_|refine blk_alloc ?_ _));exact BK14.out)) (below_size (by repeat (first|(with_reducible first|exact HB.out|apply below_alloc|apply pw_below_drewN|apply below_drew1|refine below_set ?_ GE1.out|refine below_set ?_ GE8.out|refine below_set ?_ GE10.out|refine below_set ?_ GE14.out)|exact HB.out))))
         have n4_ := Aside0.mk (blk_below (g := gb1) (o := .cells #[.slice none 0 0, .int .i64 0, .int .i64 0, .int .i64 0] 127 (0, 0)) (by (with_reducible repeat (first|refine blk_drewN ?_ _|refine blk_drew ?_|refine blk_alloc ?_ _));exact BK1.out) hb)
         have n5_ := Aside0.mk (blk_below (g := gb8) (o := .cells #[.slice (some ad9) t2.length co8, .int .i64 x9001_1, .int .i64 x9002_1, .int .i64 x9003_1] 127 (0, 0)) (by (with_reducible repeat (first|refine blk_drewN ?_ _|refine blk_drew ?_|refine blk_alloc ?_ _));exact BK8.out) hb)
         have n6_ := Aside0.mk (blk_below (g := gb10) (o := .cells #[.string ((rd_T31 t2 x18_1).f0), .string ((rd_T31 t2 x18_1).f1), .int .i64 ((rd_T31 t2 x18_1).f2.f0), .int .i64 ((rd_T31 t2 x18_1).f2.f1), .int .i64 ((rd_T31 t2 x18_1).f2.f2), .int .i64 ((rd_T31 t2 x18_1).f3.f0), .int .i64 ((rd_T31 t2 x18_1).f3.f1), .int .i64 ((rd_T31 t2 x18_1).f3.f2), .int .i64 ((rd_T31 t2 x18_1).f4.f0), .int .i64 ((rd_T31 t2 x18_1).f4.f1), .int .i64 ((rd_T31 t2 x18_1).f4.f2), .int .i64 ((rd_T31 t2 x18_1).f5)] 31 (0, 0)) (by (with_reducible repeat (first|refine blk_drewN ?_ _|refine blk_drew ?_|refine blk_alloc ?_ _));exact BK10.out) hb)
         have n7_ := Aside0.mk (blk_below (g := gb14) (o := .cells #[.int .i64 t11, .int .i64 t12, .int .i64 t13] 27 (0, 0)) (by (with_reducible repeat (first|refine blk_drewN ?_ _|refine blk_drew ?_|refine blk_alloc ?_ _));exact BK14.out) hb)
         have n8_ := Aside0.mk (below_step (by repeat (first|(with_reducible first|exact HB.out|apply below_alloc|apply pw_below_drewN|apply below_drew1|refine below_set ?_ GE1.out|refine below_set ?_ GE8.out|refine below_set ?_ GE10.out|refine below_set ?_ GE14.out)|exact HB.out)) hb)
         clear HO_16
         clear HO_9000
         clear HO17
         clear BK1
         clear BK8
         clear BK10
         clear BK14
         clear HB
         have HO_16 := n0_
         have HO_9000 := n1_
         have HO17 := n2_
         have HO23 := n3_
         have BK1 := n4_
         have BK8 := n5_
         have BK10 := n6_
         have BK14 := n7_
         have HB := n8_
         clear n0_ n1_ n2_ n3_ n4_ n5_ n6_ n7_ n8_
         clear hb ho34
         obtain ⟨Ao35, co35, eo35⟩ := Kd.R_slice HO17.out
         (first | subst eo35 | (injection eo35 with f1_ f2_ f3_; have f4_ := f1_.symm; have f5_ := f3_.symm; clear f1_ f2_ f3_; subst f4_; subst f5_))
         refine hK.out _ _ ⟨(blk_cell BK8.out 0).trans rfl, (blk_cell BK8.out 1).trans rfl, (blk_cell BK8.out 2).trans rfl, (blk_cell BK8.out 3).trans rfl, (blk_cell BK14.out 0).trans rfl, (blk_cell BK14.out 1).trans rfl, (blk_cell BK14.out 2).trans rfl⟩ (fun hHeld => ?_)
         clear hK K
         refine norm_ (a' := ?_) ?_ ?_
         rotate_left
         ·show Act.put _ (some 32) _ = _
          simp only [Act.put, List.setIfInBounds_toArray, List.set_cons_zero, List.set_cons_succ, i64_w, i32_w]
          rfl
         refine one_ (i := 4) (N := some 28) #[true, true, true, true, true, true, true, true, true, false, false, false, false] rfl rfl (one_of HT_.out (by kernel_rfl)) (by decide) (fun K hK => ?_)
         refine goes_ Try.func119 (by kernel_rfl) rfl #[.slice Ao35 y15.length co35] (by rfl) rfl rfl (by (try simp only [List.map_toArray, List.map_cons, List.map_nil]); first | done | rfl | (simp only [List.length_drop, List.length_take]; rfl)) ?_
         with_reducible refine (vec_Add.calls _ _ y15 t18 t19 t20 _ ?side1 ?side2 A16.out).mono ?_
         (case side1 => repeat (first|exact (Kd.R_reads' HO17.out).2.2|(with_reducible refine Kd.C_alloc ?_ _)|(with_reducible refine Kd.C_drewN ?_ _)|(with_reducible refine Kd.C_drew ?_)))
         (case side2 => exact (Kd.R_reads' HO17.out).2.1)
         rintro e w36 ⟨rfl, hb⟩
         refine ⟨_, rfl, ?_⟩
         have n0_ := Aside0.mk (Kd.R_below (by (with_reducible repeat (first|apply Kd.R_alloc|apply Kd.R_drewN|apply Kd.R_drew));exact HO_16.out) hb)
         have n1_ := Aside0.mk (Kd.R_below (by (with_reducible repeat (first|apply Kd.R_alloc|apply Kd.R_drewN|apply Kd.R_drew));exact HO_9000.out) hb)
         have n2_ := Aside0.mk (Kd.R_below (by (with_reducible repeat (first|apply Kd.R_alloc|apply Kd.R_drewN|apply Kd.R_drew));exact HO17.out) hb)
         have n3_ := Aside0.mk (Kd.R_below (by (with_reducible repeat (first|apply Kd.R_alloc|apply Kd.R_drewN|apply Kd.R_drew));exact HO23.out) hb)
         have n4_ := Aside0.mk (blk_below (g := gb1) (o := .cells #[.slice none 0 0, .int .i64 0, .int .i64 0, .int .i64 0] 127 (0, 0)) (by (with_reducible repeat (first|refine blk_drewN ?_ _|refine blk_drew ?_|refine blk_alloc ?_ _));exact BK1.out) hb)
         have n5_ := Aside0.mk (blk_below (g := gb8) (o := .cells #[.slice (some ad9) t2.length co8, .int .i64 x9001_1, .int .i64 x9002_1, .int .i64 x9003_1] 127 (0, 0)) (by (with_reducible repeat (first|refine blk_drewN ?_ _|refine blk_drew ?_|refine blk_alloc ?_ _));exact BK8.out) hb)
         have n6_ := Aside0.mk (blk_below (g := gb10) (o := .cells #[.string ((rd_T31 t2 x18_1).f0), .string ((rd_T31 t2 x18_1).f1), .int .i64 ((rd_T31 t2 x18_1).f2.f0), .int .i64 ((rd_T31 t2 x18_1).f2.f1), .int .i64 ((rd_T31 t2 x18_1).f2.f2), .int .i64 ((rd_T31 t2 x18_1).f3.f0), .int .i64 ((rd_T31 t2 x18_1).f3.f1), .int .i64 ((rd_T31 t2 x18_1).f3.f2), .int .i64 ((rd_T31 t2 x18_1).f4.f0), .int .i64 ((rd_T31 t2 x18_1).f4.f1), .int .i64 ((rd_T31 t2 x18_1).f4.f2), .int .i64 ((rd_T31 t2 x18_1).f5)] 31 (0, 0)) (by (with_reducible repeat (first|refine blk_drewN ?_ _|refine blk_drew ?_|refine blk_alloc ?_ _));exact BK10.out) hb)
         have n7_ := Aside0.mk (blk_below (g := gb14) (o := .cells #[.int .i64 t11, .int .i64 t12, .int .i64 t13] 27 (0, 0)) (by (with_reducible repeat (first|refine blk_drewN ?_ _|refine blk_drew ?_|refine blk_alloc ?_ _));exact BK14.out) hb)
         have n8_ := Aside0.mk (below_step (by repeat (first|(with_reducible first|exact HB.out|apply below_alloc|apply pw_below_drewN|apply below_drew1|refine below_set ?_ GE1.out|refine below_set ?_ GE8.out|refine below_set ?_ GE10.out|refine below_set ?_ GE14.out)|exact HB.out)) hb)
         clear HO_16
         clear HO_9000
         clear HO17
         clear HO23
         clear BK1
         clear BK8
         clear BK10
         clear BK14
         clear HB
         have HO_16 := n0_
         have HO_9000 := n1_
         have HO17 := n2_
         have HO23 := n3_
         have BK1 := n4_
         have BK8 := n5_
         have BK10 := n6_
         have BK14 := n7_
         have HB := n8_
         clear n0_ n1_ n2_ n3_ n4_ n5_ n6_ n7_ n8_
         (try clear hb)
         (try clear hb2)
         (try clear hk)
         (try clear hi)
         refine hK.out _ _ ⟨(blk_cell BK8.out 0).trans rfl, (blk_cell BK8.out 1).trans rfl, (blk_cell BK8.out 2).trans rfl, (blk_cell BK8.out 3).trans rfl, (blk_cell BK14.out 0).trans rfl, (blk_cell BK14.out 1).trans rfl, (blk_cell BK14.out 2).trans rfl⟩ (fun hHeld => ?_)
         clear hK K
         refine norm_ (a' := ?_) ?_ ?_
         rotate_left
         ·show Act.put _ (some 28) _ = _
          simp only [Act.put, List.setIfInBounds_toArray, List.set_cons_zero, List.set_cons_succ, i64_w, i32_w]
          rfl
         exact norm_ (by simp only [putAll, Act.put, List.setIfInBounds_toArray, List.set_cons_zero, List.set_cons_succ]) (hCont (.slice Ao35 y15.length co35, v22) _ ⟨hHeld, (by (with_reducible repeat (first|apply Kd.R_alloc|apply Kd.R_drewN|apply Kd.R_drew));exact Kd.R_mono HO17.out (fun _ hk => ⟨hk.2, hk.1.2⟩)), (by (with_reducible repeat (first|apply Kd.R_alloc|apply Kd.R_drewN|apply Kd.R_drew));exact Kd.R_mono HO23.out (fun _ hk => ⟨hk.1.2, hk.2⟩)), (by (with_reducible repeat (first|apply Kd.R_alloc|apply Kd.R_drewN|apply Kd.R_drew));exact HO_16.out), (by (with_reducible repeat (first|apply Kd.R_alloc|apply Kd.R_drewN|apply Kd.R_drew));exact HO_9000.out), (by (with_reducible repeat (first|refine blk_drewN ?_ _|refine blk_drew ?_|refine blk_alloc ?_ _));exact BK1.out), (by (with_reducible repeat (first|refine blk_drewN ?_ _|refine blk_drew ?_|refine blk_alloc ?_ _));exact BK10.out), (by (with_reducible repeat (first|refine blk_drewN ?_ _|refine blk_drew ?_|refine blk_alloc ?_ _));exact BK14.out), (by (with_reducible repeat (first|refine blk_drewN ?_ _|refine blk_drew ?_|refine blk_alloc ?_ _));exact BK8.out), (by repeat (first|(with_reducible first|exact HB.out|apply below_alloc|apply pw_below_drewN|apply below_drew1|refine below_set ?_ GE1.out|refine below_set ?_ GE8.out|refine below_set ?_ GE10.out|refine below_set ?_ GE14.out)|exact HB.out))⟩)
       ·skip
        refine Kd.R_lit_step k27 _ 27 ?hg (N := 32) ?hd (xs := ([(⟨x9001_1, x9002_1, x9003_1⟩ : S27), (⟨t11, t12, t13⟩ : S27)] : List (S27))) (inner := [.int .i64 x9001_1, .int .i64 x9002_1, .int .i64 x9003_1, .int .i64 t11, .int .i64 t12, .int .i64 t13]) (ok := fun _ => True) (okp := fun _ => True) ?hr ?hp (fun _ hk => hk) trivial (Below.refl _ _) (Nat.le_refl _) (by simp) ?_; (case hd => rfl); (case hg => rfl); (case hr => first | (go_simp; done) | (go_simp; rfl)); (case hp => exact (Reps.c3 (show Kd.M k27 _ _ _ (⟨x9001_1, x9002_1, x9003_1⟩ : S27) [.int .i64 x9001_1, .int .i64 x9002_1, .int .i64 x9003_1] from (k27_mkM _ _ _ (⟨x9001_1, x9002_1, x9003_1⟩ : S27) )) (Reps.c3 (show Kd.M k27 _ _ _ (⟨t11, t12, t13⟩ : S27) [.int .i64 t11, .int .i64 t12, .int .i64 t13] from (k27_mkM _ _ _ (⟨t11, t12, t13⟩ : S27) )) (Reps.none _ _))))
        intro v22 w31 ho32 hb hg_ hnew_
        clear hg_ hnew_
        (first | rw [← Ny21.out] at ho32 | (simp only [Int.reduceToNat] at ho32; rw [← Ny21.out] at ho32))
        have n0_ := Aside0.mk (Kd.R_below (by (with_reducible repeat (first|apply Kd.R_alloc|apply Kd.R_drewN|apply Kd.R_drew));exact HO_16.out) hb)
        have n1_ := Aside0.mk (Kd.R_below (by (with_reducible repeat (first|apply Kd.R_alloc|apply Kd.R_drewN|apply Kd.R_drew));exact HO_9000.out) hb)
        have n2_ := Aside0.mk (Kd.R_lower (Kd.R_newB ho32 (g := gb14) (o := .cells #[.int .i64 t11, .int .i64 t12, .int .i64 t13] 27 (0, 0)) (by (with_reducible repeat (first|refine blk_drewN ?_ _|refine blk_drew ?_|refine blk_alloc ?_ _));exact BK14.out)) (below_size (by repeat (first|(with_reducible first|exact HB.out|apply below_alloc|apply pw_below_drewN|apply below_drew1|refine below_set ?_ GE1.out|refine below_set ?_ GE8.out|refine below_set ?_ GE10.out|refine below_set ?_ GE14.out)|exact HB.out))))
        have n3_ := Aside0.mk (blk_below (g := gb1) (o := .cells #[.slice none 0 0, .int .i64 0, .int .i64 0, .int .i64 0] 127 (0, 0)) (by (with_reducible repeat (first|refine blk_drewN ?_ _|refine blk_drew ?_|refine blk_alloc ?_ _));exact BK1.out) hb)
        have n4_ := Aside0.mk (blk_below (g := gb8) (o := .cells #[.slice (some ad9) t2.length co8, .int .i64 x9001_1, .int .i64 x9002_1, .int .i64 x9003_1] 127 (0, 0)) (by (with_reducible repeat (first|refine blk_drewN ?_ _|refine blk_drew ?_|refine blk_alloc ?_ _));exact BK8.out) hb)
        have n5_ := Aside0.mk (blk_below (g := gb10) (o := .cells #[.string ((rd_T31 t2 x18_1).f0), .string ((rd_T31 t2 x18_1).f1), .int .i64 ((rd_T31 t2 x18_1).f2.f0), .int .i64 ((rd_T31 t2 x18_1).f2.f1), .int .i64 ((rd_T31 t2 x18_1).f2.f2), .int .i64 ((rd_T31 t2 x18_1).f3.f0), .int .i64 ((rd_T31 t2 x18_1).f3.f1), .int .i64 ((rd_T31 t2 x18_1).f3.f2), .int .i64 ((rd_T31 t2 x18_1).f4.f0), .int .i64 ((rd_T31 t2 x18_1).f4.f1), .int .i64 ((rd_T31 t2 x18_1).f4.f2), .int .i64 ((rd_T31 t2 x18_1).f5)] 31 (0, 0)) (by (with_reducible repeat (first|refine blk_drewN ?_ _|refine blk_drew ?_|refine blk_alloc ?_ _));exact BK10.out) hb)
        have n6_ := Aside0.mk (blk_below (g := gb14) (o := .cells #[.int .i64 t11, .int .i64 t12, .int .i64 t13] 27 (0, 0)) (by (with_reducible repeat (first|refine blk_drewN ?_ _|refine blk_drew ?_|refine blk_alloc ?_ _));exact BK14.out) hb)
        have n7_ := Aside0.mk (below_step (by repeat (first|(with_reducible first|exact HB.out|apply below_alloc|apply pw_below_drewN|apply below_drew1|refine below_set ?_ GE1.out|refine below_set ?_ GE8.out|refine below_set ?_ GE10.out|refine below_set ?_ GE14.out)|exact HB.out)) hb)
        clear HO_16
        clear HO_9000
        clear BK1
        clear BK8
        clear BK10
        clear BK14
        clear HB
        have HO_16 := n0_
        have HO_9000 := n1_
        have HO23 := n2_
        have BK1 := n3_
        have BK8 := n4_
        have BK10 := n5_
        have BK14 := n6_
        have HB := n7_
        clear n0_ n1_ n2_ n3_ n4_ n5_ n6_ n7_
        clear hb ho32
        refine hK.out _ _ ⟨(blk_cell BK8.out 0).trans rfl, (blk_cell BK8.out 1).trans rfl, (blk_cell BK8.out 2).trans rfl, (blk_cell BK8.out 3).trans rfl, (blk_cell BK14.out 0).trans rfl, (blk_cell BK14.out 1).trans rfl, (blk_cell BK14.out 2).trans rfl⟩ (fun hHeld => ?_)
        clear hK K
        refine norm_ (a' := ?_) ?_ ?_
        rotate_left
        ·show Act.put _ (some 32) _ = _
         simp only [Act.put, List.setIfInBounds_toArray, List.set_cons_zero, List.set_cons_succ, i64_w, i32_w]
         rfl
        refine one_ (i := 3) (N := some 27) #[true, true, true, true, false, true, true, true, true, false, false, false, false] rfl rfl (one_of HT_.out (by kernel_rfl)) (by decide) (fun K hK => ?_)
        refine Kd.R_lit_step k27 _ 27 ?hg (N := 27) ?hd (xs := ([(⟨x9001_1, x9002_1, x9003_1⟩ : S27), (⟨t11, t12, t13⟩ : S27)] : List (S27))) (inner := [.int .i64 x9001_1, .int .i64 x9002_1, .int .i64 x9003_1, .int .i64 t11, .int .i64 t12, .int .i64 t13]) (ok := fun _ => True) (okp := fun _ => True) ?hr ?hp (fun _ hk => hk) trivial (Below.refl _ _) (Nat.le_refl _) (by simp) ?_; (case hd => rfl); (case hg => rfl); (case hr => first | (go_simp; done) | (go_simp; rfl)); (case hp => exact (Reps.c3 (show Kd.M k27 _ _ _ (⟨x9001_1, x9002_1, x9003_1⟩ : S27) [.int .i64 x9001_1, .int .i64 x9002_1, .int .i64 x9003_1] from (k27_mkM _ _ _ (⟨x9001_1, x9002_1, x9003_1⟩ : S27) )) (Reps.c3 (show Kd.M k27 _ _ _ (⟨t11, t12, t13⟩ : S27) [.int .i64 t11, .int .i64 t12, .int .i64 t13] from (k27_mkM _ _ _ (⟨t11, t12, t13⟩ : S27) )) (Reps.none _ _))))
        intro v16 w33 ho34 hb hg_ hnew_
        clear hg_ hnew_
        (first | rw [← Ny15.out] at ho34 | (simp only [Int.reduceToNat] at ho34; rw [← Ny15.out] at ho34))
        have n0_ := Aside0.mk (Kd.R_below (by (with_reducible repeat (first|apply Kd.R_alloc|apply Kd.R_drewN|apply Kd.R_drew));exact HO_16.out) hb)
        have n1_ := Aside0.mk (Kd.R_below (by (with_reducible repeat (first|apply Kd.R_alloc|apply Kd.R_drewN|apply Kd.R_drew));exact HO_9000.out) hb)
        have n2_ := Aside0.mk (Kd.R_elder' (by (with_reducible repeat (first|apply Kd.R_alloc|apply Kd.R_drewN|apply Kd.R_drew));exact HO23.out) (Kd.R_base ho34) hb)
        have n3_ := Aside0.mk (Kd.R_lower (Kd.R_newB (Kd.R_new' ho34 (Kd.R_lt (by (with_reducible repeat (first|apply Kd.R_alloc|apply Kd.R_drewN|apply Kd.R_drew));exact HO23.out))) (g := gb14) (o := .cells #[.int .i64 t11, .int .i64 t12, .int .i64 t13] 27 (0, 0)) (by (with_reducible repeat (first|refine blk_drewN ?_ _|refine blk_drew ?_|refine blk_alloc ?_ _));exact BK14.out)) (below_size (by repeat (first|(with_reducible first|exact HB.out|apply below_alloc|apply pw_below_drewN|apply below_drew1|refine below_set ?_ GE1.out|refine below_set ?_ GE8.out|refine below_set ?_ GE10.out|refine below_set ?_ GE14.out)|exact HB.out))))
        have n4_ := Aside0.mk (blk_below (g := gb1) (o := .cells #[.slice none 0 0, .int .i64 0, .int .i64 0, .int .i64 0] 127 (0, 0)) (by (with_reducible repeat (first|refine blk_drewN ?_ _|refine blk_drew ?_|refine blk_alloc ?_ _));exact BK1.out) hb)
        have n5_ := Aside0.mk (blk_below (g := gb8) (o := .cells #[.slice (some ad9) t2.length co8, .int .i64 x9001_1, .int .i64 x9002_1, .int .i64 x9003_1] 127 (0, 0)) (by (with_reducible repeat (first|refine blk_drewN ?_ _|refine blk_drew ?_|refine blk_alloc ?_ _));exact BK8.out) hb)
        have n6_ := Aside0.mk (blk_below (g := gb10) (o := .cells #[.string ((rd_T31 t2 x18_1).f0), .string ((rd_T31 t2 x18_1).f1), .int .i64 ((rd_T31 t2 x18_1).f2.f0), .int .i64 ((rd_T31 t2 x18_1).f2.f1), .int .i64 ((rd_T31 t2 x18_1).f2.f2), .int .i64 ((rd_T31 t2 x18_1).f3.f0), .int .i64 ((rd_T31 t2 x18_1).f3.f1), .int .i64 ((rd_T31 t2 x18_1).f3.f2), .int .i64 ((rd_T31 t2 x18_1).f4.f0), .int .i64 ((rd_T31 t2 x18_1).f4.f1), .int .i64 ((rd_T31 t2 x18_1).f4.f2), .int .i64 ((rd_T31 t2 x18_1).f5)] 31 (0, 0)) (by (with_reducible repeat (first|refine blk_drewN ?_ _|refine blk_drew ?_|refine blk_alloc ?_ _));exact BK10.out) hb)
        have n7_ := Aside0.mk (blk_below (g := gb14) (o := .cells #[.int .i64 t11, .int .i64 t12, .int .i64 t13] 27 (0, 0)) (by (with_reducible repeat (first|refine blk_drewN ?_ _|refine blk_drew ?_|refine blk_alloc ?_ _));exact BK14.out) hb)
        have n8_ := Aside0.mk (below_step (by repeat (first|(with_reducible first|exact HB.out|apply below_alloc|apply pw_below_drewN|apply below_drew1|refine below_set ?_ GE1.out|refine below_set ?_ GE8.out|refine below_set ?_ GE10.out|refine below_set ?_ GE14.out)|exact HB.out)) hb)
        clear HO_16
        clear HO_9000
        clear HO23
        clear BK1
        clear BK8
        clear BK10
        clear BK14
        clear HB
        have HO_16 := n0_
        have HO_9000 := n1_
        have HO23 := n2_
        have HO17 := n3_
        have BK1 := n4_
        have BK8 := n5_
        have BK10 := n6_
        have BK14 := n7_
        have HB := n8_
        clear n0_ n1_ n2_ n3_ n4_ n5_ n6_ n7_ n8_
        clear hb ho34
        obtain ⟨Ao35, co35, eo35⟩ := Kd.R_slice HO17.out
        (first | subst eo35 | (injection eo35 with f1_ f2_ f3_; have f4_ := f1_.symm; have f5_ := f3_.symm; clear f1_ f2_ f3_; subst f4_; subst f5_))
        refine hK.out _ _ ⟨(blk_cell BK8.out 0).trans rfl, (blk_cell BK8.out 1).trans rfl, (blk_cell BK8.out 2).trans rfl, (blk_cell BK8.out 3).trans rfl, (blk_cell BK14.out 0).trans rfl, (blk_cell BK14.out 1).trans rfl, (blk_cell BK14.out 2).trans rfl⟩ (fun hHeld => ?_)
        clear hK K
        refine norm_ (a' := ?_) ?_ ?_
        rotate_left
        ·show Act.put _ (some 27) _ = _
         simp only [Act.put, List.setIfInBounds_toArray, List.set_cons_zero, List.set_cons_succ, i64_w, i32_w]
         rfl
        refine one_ (i := 4) (N := some 28) #[true, true, true, true, true, true, true, true, true, false, false, false, false] rfl rfl (one_of HT_.out (by kernel_rfl)) (by decide) (fun K hK => ?_)
        refine goes_ Try.func119 (by kernel_rfl) rfl #[.slice Ao35 y15.length co35] (by rfl) rfl rfl (by (try simp only [List.map_toArray, List.map_cons, List.map_nil]); first | done | rfl | (simp only [List.length_drop, List.length_take]; rfl)) ?_
        with_reducible refine (vec_Add.calls _ _ y15 t18 t19 t20 _ ?side1 ?side2 A16.out).mono ?_
        (case side1 => repeat (first|exact (Kd.R_reads' HO17.out).2.2|(with_reducible refine Kd.C_alloc ?_ _)|(with_reducible refine Kd.C_drewN ?_ _)|(with_reducible refine Kd.C_drew ?_)))
        (case side2 => exact (Kd.R_reads' HO17.out).2.1)
        rintro e w36 ⟨rfl, hb⟩
        refine ⟨_, rfl, ?_⟩
        have n0_ := Aside0.mk (Kd.R_below (by (with_reducible repeat (first|apply Kd.R_alloc|apply Kd.R_drewN|apply Kd.R_drew));exact HO_16.out) hb)
        have n1_ := Aside0.mk (Kd.R_below (by (with_reducible repeat (first|apply Kd.R_alloc|apply Kd.R_drewN|apply Kd.R_drew));exact HO_9000.out) hb)
        have n2_ := Aside0.mk (Kd.R_below (by (with_reducible repeat (first|apply Kd.R_alloc|apply Kd.R_drewN|apply Kd.R_drew));exact HO23.out) hb)
        have n3_ := Aside0.mk (Kd.R_below (by (with_reducible repeat (first|apply Kd.R_alloc|apply Kd.R_drewN|apply Kd.R_drew));exact HO17.out) hb)
        have n4_ := Aside0.mk (blk_below (g := gb1) (o := .cells #[.slice none 0 0, .int .i64 0, .int .i64 0, .int .i64 0] 127 (0, 0)) (by (with_reducible repeat (first|refine blk_drewN ?_ _|refine blk_drew ?_|refine blk_alloc ?_ _));exact BK1.out) hb)
        have n5_ := Aside0.mk (blk_below (g := gb8) (o := .cells #[.slice (some ad9) t2.length co8, .int .i64 x9001_1, .int .i64 x9002_1, .int .i64 x9003_1] 127 (0, 0)) (by (with_reducible repeat (first|refine blk_drewN ?_ _|refine blk_drew ?_|refine blk_alloc ?_ _));exact BK8.out) hb)
        have n6_ := Aside0.mk (blk_below (g := gb10) (o := .cells #[.string ((rd_T31 t2 x18_1).f0), .string ((rd_T31 t2 x18_1).f1), .int .i64 ((rd_T31 t2 x18_1).f2.f0), .int .i64 ((rd_T31 t2 x18_1).f2.f1), .int .i64 ((rd_T31 t2 x18_1).f2.f2), .int .i64 ((rd_T31 t2 x18_1).f3.f0), .int .i64 ((rd_T31 t2 x18_1).f3.f1), .int .i64 ((rd_T31 t2 x18_1).f3.f2), .int .i64 ((rd_T31 t2 x18_1).f4.f0), .int .i64 ((rd_T31 t2 x18_1).f4.f1), .int .i64 ((rd_T31 t2 x18_1).f4.f2), .int .i64 ((rd_T31 t2 x18_1).f5)] 31 (0, 0)) (by (with_reducible repeat (first|refine blk_drewN ?_ _|refine blk_drew ?_|refine blk_alloc ?_ _));exact BK10.out) hb)
        have n7_ := Aside0.mk (blk_below (g := gb14) (o := .cells #[.int .i64 t11, .int .i64 t12, .int .i64 t13] 27 (0, 0)) (by (with_reducible repeat (first|refine blk_drewN ?_ _|refine blk_drew ?_|refine blk_alloc ?_ _));exact BK14.out) hb)
        have n8_ := Aside0.mk (below_step (by repeat (first|(with_reducible first|exact HB.out|apply below_alloc|apply pw_below_drewN|apply below_drew1|refine below_set ?_ GE1.out|refine below_set ?_ GE8.out|refine below_set ?_ GE10.out|refine below_set ?_ GE14.out)|exact HB.out)) hb)
        clear HO_16
        clear HO_9000
        clear HO23
        clear HO17
        clear BK1
        clear BK8
        clear BK10
        clear BK14
        clear HB
        have HO_16 := n0_
        have HO_9000 := n1_
        have HO23 := n2_
        have HO17 := n3_
        have BK1 := n4_
        have BK8 := n5_
        have BK10 := n6_
        have BK14 := n7_
        have HB := n8_
        clear n0_ n1_ n2_ n3_ n4_ n5_ n6_ n7_ n8_
        (try clear hb)
        (try clear hb2)
        (try clear hk)
        (try clear hi)
        refine hK.out _ _ ⟨(blk_cell BK8.out 0).trans rfl, (blk_cell BK8.out 1).trans rfl, (blk_cell BK8.out 2).trans rfl, (blk_cell BK8.out 3).trans rfl, (blk_cell BK14.out 0).trans rfl, (blk_cell BK14.out 1).trans rfl, (blk_cell BK14.out 2).trans rfl⟩ (fun hHeld => ?_)
        clear hK K
        refine norm_ (a' := ?_) ?_ ?_
        rotate_left
        ·show Act.put _ (some 28) _ = _
         simp only [Act.put, List.setIfInBounds_toArray, List.set_cons_zero, List.set_cons_succ, i64_w, i32_w]
         rfl
        exact norm_ (by simp only [putAll, Act.put, List.setIfInBounds_toArray, List.set_cons_zero, List.set_cons_succ]) (hCont (.slice Ao35 y15.length co35, v22) _ ⟨hHeld, (by (with_reducible repeat (first|apply Kd.R_alloc|apply Kd.R_drewN|apply Kd.R_drew));exact Kd.R_mono HO17.out (fun _ hk => ⟨hk.1.2, hk.2⟩)), (by (with_reducible repeat (first|apply Kd.R_alloc|apply Kd.R_drewN|apply Kd.R_drew));exact Kd.R_mono HO23.out (fun _ hk => ⟨hk.2, hk.1.2⟩)), (by (with_reducible repeat (first|apply Kd.R_alloc|apply Kd.R_drewN|apply Kd.R_drew));exact HO_16.out), (by (with_reducible repeat (first|apply Kd.R_alloc|apply Kd.R_drewN|apply Kd.R_drew));exact HO_9000.out), (by (with_reducible repeat (first|refine blk_drewN ?_ _|refine blk_drew ?_|refine blk_alloc ?_ _));exact BK1.out), (by (with_reducible repeat (first|refine blk_drewN ?_ _|refine blk_drew ?_|refine blk_alloc ?_ _));exact BK10.out), (by (with_reducible repeat (first|refine blk_drewN ?_ _|refine blk_drew ?_|refine blk_alloc ?_ _));exact BK14.out), (by (with_reducible repeat (first|refine blk_drewN ?_ _|refine blk_drew ?_|refine blk_alloc ?_ _));exact BK8.out), (by repeat (first|(with_reducible first|exact HB.out|apply below_alloc|apply pw_below_drewN|apply below_drew1|refine below_set ?_ GE1.out|refine below_set ?_ GE8.out|refine below_set ?_ GE10.out|refine below_set ?_ GE14.out)|exact HB.out))⟩)
      rintro ⟨v16, v22⟩ w37 ⟨hS_, h0_, h1_, h2_, h3_, h4_, h5_, h6_, h7_, h8_⟩
      have n0_ : Aside0 (Kd.R k27 27 w37 w.heap.size (fun k_ => some k_ ≠ (v22 : Value).ownBlock ∧ k_ ≠ gb14) v16 y15) := ⟨h0_⟩
      have n1_ : Aside0 (Kd.R k27 27 w37 w.heap.size (fun k_ => some k_ ≠ (v16 : Value).ownBlock ∧ k_ ≠ gb14) v22 y21) := ⟨h1_⟩
      have n2_ : Aside0 (Kd.R k31 31 w37 w.heap.size (fun k_ => k_ ≠ gb10) (.slice (some ad9) t2.length co8) t2) := ⟨h2_⟩
      have n3_ : Aside0 (Kd.R k31 31 w37 w.heap.size (fun k_ => k_ ≠ gb10) (.slice (some ad9) t2.length co8) t2) := ⟨h3_⟩
      have n4_ : Aside0 (w37.heap[gb1]? = some (.cells #[.slice none 0 0, .int .i64 0, .int .i64 0, .int .i64 0] 127 (0, 0))) := ⟨h4_⟩
      have n5_ : Aside0 (w37.heap[gb10]? = some (.cells #[.string ((rd_T31 t2 x18_1).f0), .string ((rd_T31 t2 x18_1).f1), .int .i64 ((rd_T31 t2 x18_1).f2.f0), .int .i64 ((rd_T31 t2 x18_1).f2.f1), .int .i64 ((rd_T31 t2 x18_1).f2.f2), .int .i64 ((rd_T31 t2 x18_1).f3.f0), .int .i64 ((rd_T31 t2 x18_1).f3.f1), .int .i64 ((rd_T31 t2 x18_1).f3.f2), .int .i64 ((rd_T31 t2 x18_1).f4.f0), .int .i64 ((rd_T31 t2 x18_1).f4.f1), .int .i64 ((rd_T31 t2 x18_1).f4.f2), .int .i64 ((rd_T31 t2 x18_1).f5)] 31 (0, 0))) := ⟨h5_⟩
      have n6_ : Aside0 (w37.heap[gb14]? = some (.cells #[.int .i64 t11, .int .i64 t12, .int .i64 t13] 27 (0, 0))) := ⟨h6_⟩
      have n7_ : Aside0 (w37.heap[gb8]? = some (.cells #[.slice (some ad9) t2.length co8, .int .i64 x9001_1, .int .i64 x9002_1, .int .i64 x9003_1] 127 (0, 0))) := ⟨h7_⟩
      have n8_ : Aside0 (Below w.heap.size w w37) := ⟨h8_⟩
      clear HO_16
      clear HO_9000
      clear BK1
      clear BK8
      clear BK10
      clear BK14
      clear HB
      clear h0_ h1_ h2_ h3_ h4_ h5_ h6_ h7_ h8_
      have HO17 := n0_
      have HO23 := n1_
      have HO_16 := n2_
      have HO_9000 := n3_
      have BK1 := n4_
      have BK10 := n5_
      have BK14 := n6_
      have BK8 := n7_
      have HB := n8_
      clear n0_ n1_ n2_ n3_ n4_ n5_ n6_ n7_ n8_
      have hHeld : w37.cell? ⟨gb8, 0, none⟩ = some (.slice (some ad9) t2.length co8) ∧ w37.cell? ⟨gb8, 1, none⟩ = some (.int .i64 x9001_1) ∧ w37.cell? ⟨gb8, 2, none⟩ = some (.int .i64 x9002_1) ∧ w37.cell? ⟨gb8, 3, none⟩ = some (.int .i64 x9003_1) ∧ w37.cell? ⟨gb14, 0, none⟩ = some (.int .i64 t11) ∧ w37.cell? ⟨gb14, 1, none⟩ = some (.int .i64 t12) ∧ w37.cell? ⟨gb14, 2, none⟩ = some (.int .i64 t13) := hS_
      obtain ⟨Ao38, co38, eo38⟩ := Kd.R_slice HO23.out
      (first | subst eo38 | (injection eo38 with f1_ f2_ f3_; have f4_ := f1_.symm; have f5_ := f3_.symm; clear f1_ f2_ f3_; subst f4_; subst f5_))
      refine norm_ (a' := ?_) ?_ ?_
      rotate_left
      ·simp only [putAll, Act.put, List.setIfInBounds_toArray, List.set_cons_zero, List.set_cons_succ]
       rfl
      refine one_ (i := 9) (N := some 33) #[true, true, true, true, true, true, true, true, true, true, false, false, false] rfl rfl (one_of HT_.out (by kernel_rfl)) (by decide) (fun K hK => ?_)
      refine goes_ Try.func159 (by kernel_rfl) rfl #[.slice Ao38 y21.length co38] (by rfl) rfl rfl (by (try simp only [List.map_toArray, List.map_cons, List.map_nil]); first | done | rfl | (simp only [List.length_drop, List.length_take]; rfl)) ?_
      with_reducible refine (vec_Max.calls _ _ y21 t24 t25 t26 _ ?side1 ?side2 A17.out).mono ?_
      (case side1 => repeat (first|exact (Kd.R_reads' HO23.out).2.2|(with_reducible refine Kd.C_alloc ?_ _)|(with_reducible refine Kd.C_drewN ?_ _)|(with_reducible refine Kd.C_drew ?_)))
      (case side2 => exact (Kd.R_reads' HO23.out).2.1)
      rintro e w39 ⟨rfl, hb⟩
      refine ⟨_, rfl, ?_⟩
      have n0_ := Aside0.mk (Kd.R_below (by (with_reducible repeat (first|apply Kd.R_alloc|apply Kd.R_drewN|apply Kd.R_drew));exact HO_16.out) hb)
      have n1_ := Aside0.mk (Kd.R_below (by (with_reducible repeat (first|apply Kd.R_alloc|apply Kd.R_drewN|apply Kd.R_drew));exact HO_9000.out) hb)
      have n2_ := Aside0.mk (Kd.R_below (by (with_reducible repeat (first|apply Kd.R_alloc|apply Kd.R_drewN|apply Kd.R_drew));exact HO17.out) hb)
      have n3_ := Aside0.mk (Kd.R_below (by (with_reducible repeat (first|apply Kd.R_alloc|apply Kd.R_drewN|apply Kd.R_drew));exact HO23.out) hb)
      have n4_ := Aside0.mk (blk_below (g := gb1) (o := .cells #[.slice none 0 0, .int .i64 0, .int .i64 0, .int .i64 0] 127 (0, 0)) (by (with_reducible repeat (first|refine blk_drewN ?_ _|refine blk_drew ?_|refine blk_alloc ?_ _));exact BK1.out) hb)
      have n5_ := Aside0.mk (blk_below (g := gb8) (o := .cells #[.slice (some ad9) t2.length co8, .int .i64 x9001_1, .int .i64 x9002_1, .int .i64 x9003_1] 127 (0, 0)) (by (with_reducible repeat (first|refine blk_drewN ?_ _|refine blk_drew ?_|refine blk_alloc ?_ _));exact BK8.out) hb)
      have n6_ := Aside0.mk (blk_below (g := gb10) (o := .cells #[.string ((rd_T31 t2 x18_1).f0), .string ((rd_T31 t2 x18_1).f1), .int .i64 ((rd_T31 t2 x18_1).f2.f0), .int .i64 ((rd_T31 t2 x18_1).f2.f1), .int .i64 ((rd_T31 t2 x18_1).f2.f2), .int .i64 ((rd_T31 t2 x18_1).f3.f0), .int .i64 ((rd_T31 t2 x18_1).f3.f1), .int .i64 ((rd_T31 t2 x18_1).f3.f2), .int .i64 ((rd_T31 t2 x18_1).f4.f0), .int .i64 ((rd_T31 t2 x18_1).f4.f1), .int .i64 ((rd_T31 t2 x18_1).f4.f2), .int .i64 ((rd_T31 t2 x18_1).f5)] 31 (0, 0)) (by (with_reducible repeat (first|refine blk_drewN ?_ _|refine blk_drew ?_|refine blk_alloc ?_ _));exact BK10.out) hb)
      have n7_ := Aside0.mk (blk_below (g := gb14) (o := .cells #[.int .i64 t11, .int .i64 t12, .int .i64 t13] 27 (0, 0)) (by (with_reducible repeat (first|refine blk_drewN ?_ _|refine blk_drew ?_|refine blk_alloc ?_ _));exact BK14.out) hb)
      have n8_ := Aside0.mk (below_step (by repeat (first|(with_reducible first|exact HB.out|apply below_alloc|apply pw_below_drewN|apply below_drew1|refine below_set ?_ GE1.out|refine below_set ?_ GE8.out|refine below_set ?_ GE10.out|refine below_set ?_ GE14.out)|exact HB.out)) hb)
      clear HO_16
      clear HO_9000
      clear HO17
      clear HO23
      clear BK1
      clear BK8
      clear BK10
      clear BK14
      clear HB
      have HO_16 := n0_
      have HO_9000 := n1_
      have HO17 := n2_
      have HO23 := n3_
      have BK1 := n4_
      have BK8 := n5_
      have BK10 := n6_
      have BK14 := n7_
      have HB := n8_
      clear n0_ n1_ n2_ n3_ n4_ n5_ n6_ n7_ n8_
      (try clear hb)
      (try clear hb2)
      (try clear hk)
      (try clear hi)
      refine hK.out _ _ ⟨(blk_cell BK8.out 0).trans rfl, (blk_cell BK8.out 1).trans rfl, (blk_cell BK8.out 2).trans rfl, (blk_cell BK8.out 3).trans rfl, (blk_cell BK14.out 0).trans rfl, (blk_cell BK14.out 1).trans rfl, (blk_cell BK14.out 2).trans rfl⟩ (fun hHeld => ?_)
      clear hK K
      refine norm_ (a' := ?_) ?_ ?_
      rotate_left
      ·show Act.put _ (some 33) _ = _
       simp only [Act.put, List.setIfInBounds_toArray, List.set_cons_zero, List.set_cons_succ, i64_w, i32_w]
       rfl
      refine one_ (i := 10) (N := some 34) #[true, true, true, true, true, true, true, true, true, true, true, false, false] rfl rfl (one_of HT_.out (by kernel_rfl)) (by decide) (fun K hK => ?_)
      refine goes_ Try.func134 (by kernel_rfl) rfl #[.agg #[.int .i64 t18, .int .i64 t19, .int .i64 t20], .agg #[.int .i64 t24, .int .i64 t25, .int .i64 t26]] (by rfl) rfl rfl (by (try simp only [List.map_toArray, List.map_cons, List.map_nil]); first | done | rfl | (simp only [List.length_drop, List.length_take]; rfl)) ?_
      with_reducible refine (vec_Sub.calls t18 t19 t20 t24 t25 t26 t27 t28 t29 _ A18.out).mono ?_
      rintro e w40 ⟨rfl, hb⟩
      refine ⟨_, rfl, ?_⟩
      have n0_ := Aside0.mk (Kd.R_below (by (with_reducible repeat (first|apply Kd.R_alloc|apply Kd.R_drewN|apply Kd.R_drew));exact HO_16.out) hb)
      have n1_ := Aside0.mk (Kd.R_below (by (with_reducible repeat (first|apply Kd.R_alloc|apply Kd.R_drewN|apply Kd.R_drew));exact HO_9000.out) hb)
      have n2_ := Aside0.mk (Kd.R_below (by (with_reducible repeat (first|apply Kd.R_alloc|apply Kd.R_drewN|apply Kd.R_drew));exact HO17.out) hb)
      have n3_ := Aside0.mk (Kd.R_below (by (with_reducible repeat (first|apply Kd.R_alloc|apply Kd.R_drewN|apply Kd.R_drew));exact HO23.out) hb)
      have n4_ := Aside0.mk (blk_below (g := gb1) (o := .cells #[.slice none 0 0, .int .i64 0, .int .i64 0, .int .i64 0] 127 (0, 0)) (by (with_reducible repeat (first|refine blk_drewN ?_ _|refine blk_drew ?_|refine blk_alloc ?_ _));exact BK1.out) hb)
      have n5_ := Aside0.mk (blk_below (g := gb8) (o := .cells #[.slice (some ad9) t2.length co8, .int .i64 x9001_1, .int .i64 x9002_1, .int .i64 x9003_1] 127 (0, 0)) (by (with_reducible repeat (first|refine blk_drewN ?_ _|refine blk_drew ?_|refine blk_alloc ?_ _));exact BK8.out) hb)
      have n6_ := Aside0.mk (blk_below (g := gb10) (o := .cells #[.string ((rd_T31 t2 x18_1).f0), .string ((rd_T31 t2 x18_1).f1), .int .i64 ((rd_T31 t2 x18_1).f2.f0), .int .i64 ((rd_T31 t2 x18_1).f2.f1), .int .i64 ((rd_T31 t2 x18_1).f2.f2), .int .i64 ((rd_T31 t2 x18_1).f3.f0), .int .i64 ((rd_T31 t2 x18_1).f3.f1), .int .i64 ((rd_T31 t2 x18_1).f3.f2), .int .i64 ((rd_T31 t2 x18_1).f4.f0), .int .i64 ((rd_T31 t2 x18_1).f4.f1), .int .i64 ((rd_T31 t2 x18_1).f4.f2), .int .i64 ((rd_T31 t2 x18_1).f5)] 31 (0, 0)) (by (with_reducible repeat (first|refine blk_drewN ?_ _|refine blk_drew ?_|refine blk_alloc ?_ _));exact BK10.out) hb)
      have n7_ := Aside0.mk (blk_below (g := gb14) (o := .cells #[.int .i64 t11, .int .i64 t12, .int .i64 t13] 27 (0, 0)) (by (with_reducible repeat (first|refine blk_drewN ?_ _|refine blk_drew ?_|refine blk_alloc ?_ _));exact BK14.out) hb)
      have n8_ := Aside0.mk (below_step (by repeat (first|(with_reducible first|exact HB.out|apply below_alloc|apply pw_below_drewN|apply below_drew1|refine below_set ?_ GE1.out|refine below_set ?_ GE8.out|refine below_set ?_ GE10.out|refine below_set ?_ GE14.out)|exact HB.out)) hb)
      clear HO_16
      clear HO_9000
      clear HO17
      clear HO23
      clear BK1
      clear BK8
      clear BK10
      clear BK14
      clear HB
      have HO_16 := n0_
      have HO_9000 := n1_
      have HO17 := n2_
      have HO23 := n3_
      have BK1 := n4_
      have BK8 := n5_
      have BK10 := n6_
      have BK14 := n7_
      have HB := n8_
      clear n0_ n1_ n2_ n3_ n4_ n5_ n6_ n7_ n8_
      (try clear hb)
      (try clear hb2)
      (try clear hk)
      (try clear hi)
      refine hK.out _ _ ⟨(blk_cell BK8.out 0).trans rfl, (blk_cell BK8.out 1).trans rfl, (blk_cell BK8.out 2).trans rfl, (blk_cell BK8.out 3).trans rfl, (blk_cell BK14.out 0).trans rfl, (blk_cell BK14.out 1).trans rfl, (blk_cell BK14.out 2).trans rfl⟩ (fun hHeld => ?_)
      clear hK K
      refine norm_ (a' := ?_) ?_ ?_
      rotate_left
      ·show Act.put _ (some 34) _ = _
       simp only [Act.put, List.setIfInBounds_toArray, List.set_cons_zero, List.set_cons_succ, i64_w, i32_w]
       rfl
      refine pure_ (i := 11) (N := some 35) (v := ?_) (a' := ?_) #[true, true, true, true, true, true, true, true, true, true, true, true, false] rfl rfl (any_of HT_.out (by kernel_rfl)) (fun _ _ _ h => h) (Or.inl ⟨by rfl, ?_⟩) ?_ ?_
      rotate_left
      ·intro w'
       go_simp
       with_reducible rfl
      rotate_left
      ·simp only [Act.put, List.setIfInBounds_toArray, List.set_cons_zero, List.set_cons_succ, i64_w, i32_w]
       rfl
      refine last_ (i := 12) (N := none) #[true, true, true, true, true, true, true, true, true, true, true, true, true] rfl rfl (one_of HT_.out (by kernel_rfl)) (by decide) (fun K hK => ?_)
      have hs41 : w40.cell? ⟨gb8, 1, none⟩ = some (.int .i64 x9001_1) := (blk_cell BK8.out 1).trans rfl
      have hfs41 := blk_frozen BK8.out 1
      have hns41_0 := NB1_8.out
      have hns41_2 := NB10_8.out
      have hns41_3 := NB14_8.out
      have hms41_0 := NB8_1.out
      have hms41_2 := NB8_10.out
      have hms41_3 := NB8_14.out
      have hs42 : w40.cell? ⟨gb8, 2, none⟩ = some (.int .i64 x9002_1) := (blk_cell BK8.out 2).trans rfl
      have hfs42 := blk_frozen BK8.out 2
      have hns42_0 := NB1_8.out
      have hns42_2 := NB10_8.out
      have hns42_3 := NB14_8.out
      have hms42_0 := NB8_1.out
      have hms42_2 := NB8_10.out
      have hms42_3 := NB8_14.out
      have hs43 : w40.cell? ⟨gb8, 3, none⟩ = some (.int .i64 x9003_1) := (blk_cell BK8.out 3).trans rfl
      have hfs43 := blk_frozen BK8.out 3
      have hns43_0 := NB1_8.out
      have hns43_2 := NB10_8.out
      have hns43_3 := NB14_8.out
      have hms43_0 := NB8_1.out
      have hms43_2 := NB8_10.out
      have hms43_3 := NB8_14.out
      refine skip_ (w1 := ?_) (by rfl) rfl ?_ ?_
      rotate_left
      ·go_simp
       rfl
      refine hK.out _ _ ?_
      clear hK K
      refine done_ (done_of HT_.out (by kernel_rfl)) ?_
      try go_wp2
      go_roundg k1
      case measure => have := HK1.out; omega
      case rel => exact ⟨(wrap64 (x18_1 + 1)), (t27), (t28), (t29), (by first|rfl|(simp;done)|(simp [*];done)), H', ⟨by have := HK1.out;omega⟩, ⟨by (with_reducible repeat (first|apply Kd.R_alloc|apply Kd.R_drewN|apply Kd.R_drew));exact Kd.R_mono (Kd.R_far (p := ⟨gb8, 3, none⟩) (Kd.R_far (p := ⟨gb8, 2, none⟩) (Kd.R_far (p := ⟨gb8, 1, none⟩) (Kd.R_types HO_16.out BK8.out (by decide)) (fun _ hk => hk.2) (.int .i64 t27)) (fun _ hk => hk.2) (.int .i64 t28)) (fun _ hk => hk.2) (.int .i64 t29)) (fun _ hk => trivial)⟩, ⟨by (with_reducible repeat (first|apply Kd.R_alloc|apply Kd.R_drewN|apply Kd.R_drew));exact Kd.R_mono (Kd.R_far (p := ⟨gb8, 3, none⟩) (Kd.R_far (p := ⟨gb8, 2, none⟩) (Kd.R_far (p := ⟨gb8, 1, none⟩) (Kd.R_types HO_9000.out BK8.out (by decide)) (fun _ hk => hk.2) (.int .i64 t27)) (fun _ hk => hk.2) (.int .i64 t28)) (fun _ hk => hk.2) (.int .i64 t29)) (fun _ hk => trivial)⟩, ⟨by (with_reducible repeat (first|refine blk_drewN ?_ _|refine blk_drew ?_|refine blk_alloc ?_ _));refine blk_far ?_ NB1_8.out _;(with_reducible repeat (first|refine blk_drewN ?_ _|refine blk_drew ?_|refine blk_alloc ?_ _));refine blk_far ?_ NB1_8.out _;(with_reducible repeat (first|refine blk_drewN ?_ _|refine blk_drew ?_|refine blk_alloc ?_ _));refine blk_far ?_ NB1_8.out _;(with_reducible repeat (first|refine blk_drewN ?_ _|refine blk_drew ?_|refine blk_alloc ?_ _));exact BK1.out⟩, ⟨by (with_reducible repeat (first|refine blk_drewN ?_ _|refine blk_drew ?_|refine blk_alloc ?_ _));refine blk_put (cs := #[.slice (some ad9) t2.length co8, .int .i64 t27, .int .i64 t28, .int .i64 x9003_1]) ?_ 3 _ rfl;(with_reducible repeat (first|refine blk_drewN ?_ _|refine blk_drew ?_|refine blk_alloc ?_ _));refine blk_put (cs := #[.slice (some ad9) t2.length co8, .int .i64 t27, .int .i64 x9002_1, .int .i64 x9003_1]) ?_ 2 _ rfl;(with_reducible repeat (first|refine blk_drewN ?_ _|refine blk_drew ?_|refine blk_alloc ?_ _));refine blk_put (cs := #[.slice (some ad9) t2.length co8, .int .i64 x9001_1, .int .i64 x9002_1, .int .i64 x9003_1]) ?_ 1 _ rfl;(with_reducible repeat (first|refine blk_drewN ?_ _|refine blk_drew ?_|refine blk_alloc ?_ _));exact BK8.out⟩, ⟨by repeat (first|(with_reducible first|exact HB.out|apply below_alloc|apply pw_below_drewN|apply below_drew1|refine below_set ?_ GE1.out|refine below_set ?_ GE8.out|refine below_set ?_ GE10.out|refine below_set ?_ GE14.out)|exact HB.out)⟩⟩
     ·rw [if_neg c14] at H
      exact absurd H (by simp)
    ·rw [if_neg c13] at H
     exact absurd H (by simp)
   ·rw [if_neg c12] at H
    have c12b0 : decide (x18_1 < (t2.length : Int)) = false := decide_eq_false c12
    clear c12
    simp only [Option.some.injEq, Prod.mk.injEq] at H
    obtain ⟨rfl, rfl, rfl, rfl⟩ := H
    have hnb44 := NB8_1.out
    have hnc44 := NB1_8.out
    have hcz45_0 : wr.cell? ⟨gb8, 0, none⟩ = some (.slice Ao8 t2.length co8) := (blk_cell BK8.out 0).trans rfl
    have hcz45_1 : wr.cell? ⟨gb8, 1, none⟩ = some (.int .i64 x9001_1) := (blk_cell BK8.out 1).trans rfl
    have hcz45_2 : wr.cell? ⟨gb8, 2, none⟩ = some (.int .i64 x9002_1) := (blk_cell BK8.out 2).trans rfl
    have hcz45_3 : wr.cell? ⟨gb8, 3, none⟩ = some (.int .i64 x9003_1) := (blk_cell BK8.out 3).trans rfl
    have hfz45_0 := blk_frozen BK8.out 0
    have hfz45_1 := blk_frozen BK8.out 1
    have hfz45_2 := blk_frozen BK8.out 2
    have hfz45_3 := blk_frozen BK8.out 3
    have hcz46_0 : wr.cell? ⟨gb1, 0, none⟩ = some (.slice none 0 0) := (blk_cell BK1.out 0).trans rfl
    have hcz46_1 : wr.cell? ⟨gb1, 1, none⟩ = some (.int .i64 0) := (blk_cell BK1.out 1).trans rfl
    have hcz46_2 : wr.cell? ⟨gb1, 2, none⟩ = some (.int .i64 0) := (blk_cell BK1.out 2).trans rfl
    have hcz46_3 : wr.cell? ⟨gb1, 3, none⟩ = some (.int .i64 0) := (blk_cell BK1.out 3).trans rfl
    have hfz46_0 := blk_frozen BK1.out 0
    have hfz46_1 := blk_frozen BK1.out 1
    have hfz46_2 := blk_frozen BK1.out 2
    have hfz46_3 := blk_frozen BK1.out 3
    go_wp2
    refine bodyPost_ret (results_cell_row rfl _ _ gb1 127 #[.slice Ao8 t2.length co8, .int .i64 x9001_1, .int .i64 x9002_1, .int .i64 x9003_1] (0, 0) _ rfl (by (with_reducible repeat (first|refine blk_drewN ?_ _|refine blk_drew ?_|refine blk_alloc ?_ _));refine blk_put (cs := #[.slice Ao8 t2.length co8, .int .i64 x9001_1, .int .i64 x9002_1, .int .i64 0]) ?_ 3 _ rfl;(with_reducible repeat (first|refine blk_drewN ?_ _|refine blk_drew ?_|refine blk_alloc ?_ _));refine blk_put (cs := #[.slice Ao8 t2.length co8, .int .i64 x9001_1, .int .i64 0, .int .i64 0]) ?_ 2 _ rfl;(with_reducible repeat (first|refine blk_drewN ?_ _|refine blk_drew ?_|refine blk_alloc ?_ _));refine blk_put (cs := #[.slice Ao8 t2.length co8, .int .i64 0, .int .i64 0, .int .i64 0]) ?_ 1 _ rfl;(with_reducible repeat (first|refine blk_drewN ?_ _|refine blk_drew ?_|refine blk_alloc ?_ _));refine blk_put (cs := #[.slice none 0 0, .int .i64 0, .int .i64 0, .int .i64 0]) ?_ 0 _ rfl;(with_reducible repeat (first|refine blk_drewN ?_ _|refine blk_drew ?_|refine blk_alloc ?_ _));exact BK1.out) Try.underlying127 rfl (by kernel_rfl)) rfl ?_
    exact ⟨_, by first|rfl|(simp [errW_none, errW_some] <;> rfl)|(simp [*, errW_none, errW_some] <;> rfl), by (with_reducible repeat (first|apply Kd.R_alloc|apply Kd.R_drewN|apply Kd.R_drew));exact Kd.R_mono (Kd.R_far (p := ⟨gb1, 3, none⟩) (Kd.R_far (p := ⟨gb1, 2, none⟩) (Kd.R_far (p := ⟨gb1, 1, none⟩) (Kd.R_far (p := ⟨gb1, 0, none⟩) (Kd.R_types HO_9000.out BK1.out (by decide)) (fun _ hk => hk.2) (.slice Ao8 t2.length co8)) (fun _ hk => hk.2) (.int .i64 x9001_1)) (fun _ hk => hk.2) (.int .i64 x9002_1)) (fun _ hk => hk.2) (.int .i64 x9003_1)) (fun _ hk => trivial), by repeat (first|(with_reducible first|exact HB.out|apply below_alloc|apply pw_below_drewN|apply below_drew1|refine below_set ?_ GE1.out|refine below_set ?_ GE8.out)|exact HB.out)⟩
end Go.Proofs.Ytcgefpklljclgaa.Print

namespace Go.Proofs.Ytcgefpklljclgaa.Print
open Go.RowKit Go.Proofs.YtcgefpklljclgaaW.PrintWords Go.Proofs.YtcgefpklljclgaaW.PrintLast Go.Proofs.YtcgefpklljclgaaW.PrintMore
attribute [local go_sem] max2_int min2_int max_two min_two max_three min_three max_four min_four   -- for this text's walks alone
set_option linter.unusedVariables false
set_option linter.unusedSimpArgs false
/-! ### room_Of: function 33 -/
def room_Of.f (k : Nat) (l0 : List (S31)) (a1 : ByteArray) : Option (Int × Int × Int × Bool) := (room_made.f k l0 a1).bind fun bt2 => (if (bt2.1.length : Int) = 0 then (some (0, 0, 0, false)) else (some (bt2.2.1, bt2.2.2.1, bt2.2.2.2, true)))
theorem room_Of.mono : ∀ a0 a1 k, LeO (room_Of.f k a0 a1) (room_Of.f (k + 1) a0 a1) := by
 intro a0 a1 k
 unfold room_Of.f
 repeat' first
   | (with_reducible exact room_made.mono _ _ _)
   | (with_reducible exact LeO.refl _)
   | (with_reducible exact LeO.none _)
   | (with_reducible refine LeO.ite ?_ ?_)
   | (with_reducible refine LeO.bind ?_ (fun _ => ?_))
   | exact room_made.mono _ _ _
   | exact LeO.none _
   | refine LeO.ite ?_ ?_
   | refine LeO.bind ?_ (fun _ => ?_)
set_option maxHeartbeats 8000000 in
set_option maxRecDepth 100000 in
theorem room_Of.calls (k : Nat) (A0 : Option Addr) (c0 : Nat) (l0 : List (S31)) (a1 : ByteArray) (r1 : Int) (r2 : Int) (r3 : Int) (r4 : Bool) (w : World) (hr0 : Kd.C k31 w A0 l0.length l0) (hc0 : l0.length ≤ c0) (h : room_Of.f k l0 a1 = some (r1, r2, r3, r4)) :
  Calls Try.prog 33 #[.slice A0 l0.length c0, .string a1] w fun e w' => e = .returned (.tuple #[.agg #[.int .i64 r1, .int .i64 r2, .int .i64 r3], .bool r4]) ∧ Below w.heap.size w w' := by
 have hu27 := Try.underlying27
 have hu127 := Try.underlying127
 have HR0 := Aside0.mk hr0
 have HC0 := Aside0.mk hc0
 clear hr0 hc0
 have HB := Aside0.mk (Below.refl w.heap.size w)
 have H : ((room_made.f k l0 a1).bind fun bt2 => (if (bt2.1.length : Int) = 0 then (some (0, 0, 0, false)) else (some (bt2.2.1, bt2.2.2.1, bt2.2.2.2, true)))) = some (r1, r2, r3, r4) := h
 clear h
 replace H := Option.bind_eq_some_iff.mp H
 obtain ⟨⟨t2, t5, t6, t7⟩, A30, H⟩ := H
 replace H : (if (t2.length : Int) = 0 then (some (0, 0, 0, false)) else (some (t5, t6, t7, true))) = some (r1, r2, r3, r4) := H
 have A3 := Aside0.mk A30
 clear A30
 by_cases c4 : (t2.length : Int) = 0
 ·rw [if_pos c4] at H
  have c4b0 : ((t2.length : Int) == 0) = true := beq_iff_eq.mpr c4
  have c4b1 : ((t2.length : Int) != 0) = false := bne_eq_false_iff_eq.mpr c4
  clear c4
  simp only [Option.some.injEq, Prod.mk.injEq] at H
  obtain ⟨rfl, rfl, rfl, rfl⟩ := H
  go_enter Try.func33, Try.ntmps33
  go_wp2_with (first|((with_reducible refine gate_dst (N := 4) rfl ?_);refine box_event ?hg (N := 4) ?hd (cs := #[.int .i64 0, .int .i64 0, .int .i64 0]) (t := 27) ?hr ?_;(case hd => rfl);(case hg => rfl);(case hr => first|(go_simp;done)|(go_simp;rfl));intro gb1 hg w5 hbox hb;have n0_ := Aside0.mk (below_step (by repeat (first|(with_reducible first|exact HB.out|apply below_alloc|apply pw_below_drewN|apply below_drew1)|exact HB.out)) hb);have n1_ := Aside0.mk (hbox);have n2_ := Aside0.mk ((by rw [hg];exact (below_size (by repeat (first|(with_reducible first|exact HB.out|apply below_alloc|apply pw_below_drewN|apply below_drew1)|exact HB.out))) : w.heap.size ≤ gb1));have n3_ := Aside0.mk ((by rw [hg];exact (below_size (by repeat (first|(with_reducible first|exact HB.out|apply below_alloc|apply pw_below_drewN|apply below_drew1)|exact HB.out))) : w.heap.size ≤ gb1));clear HB;have HB := n0_;have BK1 := n1_;have GW1 := n2_;have GE1 := n3_;clear n0_ n1_ n2_ n3_;clear hb hbox hg)|((with_reducible refine gate_callee (f := 104) rfl ?_);refine goesL_ (some 9) rfl rfl Try.func104 (by kernel_rfl) rfl #[.slice A0 l0.length c0, .string a1] rfl (by (try simp only [List.map_toArray, List.map_cons, List.map_nil]);first|done|rfl|(simp only [List.length_drop, List.length_take];rfl)) ?_;(with_reducible refine (room_made.calls k _ _ l0 a1 t2 t5 t6 t7 _ ?side1 ?side2 A3.out).mono ?_);(case side1 => repeat (first|exact (Kd.C_below HR0.out HB.out)|(with_reducible refine Kd.C_alloc ?_ _)|(with_reducible refine Kd.C_drewN ?_ _)|(with_reducible refine Kd.C_drew ?_)));(case side2 => exact HC0.out);rintro e w6 ⟨v3, rfl, ho0, hb⟩;refine ⟨_, rfl, ?_⟩;have n0_ := Aside0.mk (Kd.R_lower ho0 (below_size (by repeat (first|(with_reducible first|exact HB.out|apply below_alloc|apply pw_below_drewN|apply below_drew1|refine below_set ?_ GE1.out)|exact HB.out))));have n1_ := Aside0.mk (blk_below (g := gb1) (o := .cells #[.int .i64 0, .int .i64 0, .int .i64 0] 27 (0, 0)) (by (with_reducible repeat (first|refine blk_drewN ?_ _|refine blk_drew ?_|refine blk_alloc ?_ _));exact BK1.out) hb);have n2_ := Aside0.mk (below_step (by repeat (first|(with_reducible first|exact HB.out|apply below_alloc|apply pw_below_drewN|apply below_drew1|refine below_set ?_ GE1.out)|exact HB.out)) hb);clear BK1;clear HB;have HO4 := n0_;have BK1 := n1_;have HB := n2_;clear n0_ n1_ n2_;(try clear hb);(try clear hb2);(try clear hk);(try clear hi);(try clear ho0))|((with_reducible refine gate_dst (N := 6) rfl ?_);refine box_event ?hg (N := 6) ?hd (cs := #[.slice none 0 0, .int .i64 0, .int .i64 0, .int .i64 0]) (t := 127) ?hr ?_;(case hd => rfl);(case hg => rfl);(case hr => first|(go_simp;done)|(go_simp;rfl));intro gb8 hg w7 hbox hb;have n0_ := Aside0.mk (Kd.R_below (by (with_reducible repeat (first|apply Kd.R_alloc|apply Kd.R_drewN|apply Kd.R_drew));exact HO4.out) hb);have n1_ := Aside0.mk (blk_below (g := gb1) (o := .cells #[.int .i64 0, .int .i64 0, .int .i64 0] 27 (0, 0)) (by (with_reducible repeat (first|refine blk_drewN ?_ _|refine blk_drew ?_|refine blk_alloc ?_ _));exact BK1.out) hb);have n2_ := Aside0.mk (below_step (by repeat (first|(with_reducible first|exact HB.out|apply below_alloc|apply pw_below_drewN|apply below_drew1|refine below_set ?_ GE1.out)|exact HB.out)) hb);have n3_ := Aside0.mk (hbox);have n4_ := Aside0.mk ((by rw [hg];exact (below_size (by repeat (first|(with_reducible first|exact HB.out|apply below_alloc|apply pw_below_drewN|apply below_drew1|refine below_set ?_ GE1.out)|exact HB.out))) : w.heap.size ≤ gb8));have n5_ := Aside0.mk ((by rw [hg];exact (below_size (by repeat (first|(with_reducible first|exact HB.out|apply below_alloc|apply pw_below_drewN|apply below_drew1|refine below_set ?_ GE1.out)|exact HB.out))) : w.heap.size ≤ gb8));have n6_ := Aside0.mk ((by rw [hg];exact Nat.ne_of_lt (blk_lt (g := gb1) (o := .cells #[.int .i64 0, .int .i64 0, .int .i64 0] 27 (0, 0)) (by (with_reducible repeat (first|refine blk_drewN ?_ _|refine blk_drew ?_|refine blk_alloc ?_ _));exact BK1.out)) : gb1 ≠ gb8));have n7_ := Aside0.mk ((by rw [hg];exact Nat.ne_of_gt (blk_lt (g := gb1) (o := .cells #[.int .i64 0, .int .i64 0, .int .i64 0] 27 (0, 0)) (by (with_reducible repeat (first|refine blk_drewN ?_ _|refine blk_drew ?_|refine blk_alloc ?_ _));exact BK1.out)) : gb8 ≠ gb1));clear HO4;clear BK1;clear HB;have HO4 := n0_;have BK1 := n1_;have HB := n2_;have BK8 := n3_;have GW8 := n4_;have GE8 := n5_;have NB1_8 := n6_;have NB8_1 := n7_;clear n0_ n1_ n2_ n3_ n4_ n5_ n6_ n7_;clear hb hbox hg;obtain ⟨Ao8, co8, eo8⟩ := Kd.R_slice HO4.out;subst eo8;have hnb9 := NB8_1.out;have hnc9 := NB1_8.out;have hcz10_0 : w7.cell? ⟨gb8, 0, none⟩ = some (.slice none 0 0) := (blk_cell BK8.out 0).trans rfl;have hcz10_1 : w7.cell? ⟨gb8, 1, none⟩ = some (.int .i64 0) := (blk_cell BK8.out 1).trans rfl;have hcz10_2 : w7.cell? ⟨gb8, 2, none⟩ = some (.int .i64 0) := (blk_cell BK8.out 2).trans rfl;have hcz10_3 : w7.cell? ⟨gb8, 3, none⟩ = some (.int .i64 0) := (blk_cell BK8.out 3).trans rfl;have hfz10_0 := blk_frozen BK8.out 0;have hfz10_1 := blk_frozen BK8.out 1;have hfz10_2 := blk_frozen BK8.out 2;have hfz10_3 := blk_frozen BK8.out 3;have hcz11_0 : w7.cell? ⟨gb1, 0, none⟩ = some (.int .i64 0) := (blk_cell BK1.out 0).trans rfl;have hcz11_1 : w7.cell? ⟨gb1, 1, none⟩ = some (.int .i64 0) := (blk_cell BK1.out 1).trans rfl;have hcz11_2 : w7.cell? ⟨gb1, 2, none⟩ = some (.int .i64 0) := (blk_cell BK1.out 2).trans rfl;have hfz11_0 := blk_frozen BK1.out 0;have hfz11_1 := blk_frozen BK1.out 1;have hfz11_2 := blk_frozen BK1.out 2))
  refine bodyPost_ret (results_ct rfl _ _ gb1 27 #[.int .i64 0, .int .i64 0, .int .i64 0] (0, 0) _ rfl (by (with_reducible repeat (first|refine blk_drewN ?_ _|refine blk_drew ?_|refine blk_alloc ?_ _));refine blk_put (cs := #[.int .i64 0, .int .i64 0, .int .i64 0]) ?_ 2 _ rfl;(with_reducible repeat (first|refine blk_drewN ?_ _|refine blk_drew ?_|refine blk_alloc ?_ _));refine blk_put (cs := #[.int .i64 0, .int .i64 0, .int .i64 0]) ?_ 1 _ rfl;(with_reducible repeat (first|refine blk_drewN ?_ _|refine blk_drew ?_|refine blk_alloc ?_ _));refine blk_put (cs := #[.int .i64 0, .int .i64 0, .int .i64 0]) ?_ 0 _ rfl;(with_reducible repeat (first|refine blk_drewN ?_ _|refine blk_drew ?_|refine blk_alloc ?_ _));refine blk_far ?_ NB1_8.out _;(with_reducible repeat (first|refine blk_drewN ?_ _|refine blk_drew ?_|refine blk_alloc ?_ _));refine blk_far ?_ NB1_8.out _;(with_reducible repeat (first|refine blk_drewN ?_ _|refine blk_drew ?_|refine blk_alloc ?_ _));refine blk_far ?_ NB1_8.out _;(with_reducible repeat (first|refine blk_drewN ?_ _|refine blk_drew ?_|refine blk_alloc ?_ _));refine blk_far ?_ NB1_8.out _;(with_reducible repeat (first|refine blk_drewN ?_ _|refine blk_drew ?_|refine blk_alloc ?_ _));exact BK1.out) Try.underlying27 rfl (by kernel_rfl)) rfl ?_
  exact ⟨by first|rfl|(simp [errW_none, errW_some] <;> rfl)|(simp [*, errW_none, errW_some] <;> rfl), by repeat (first|(with_reducible first|exact HB.out|apply below_alloc|apply pw_below_drewN|apply below_drew1|refine below_set ?_ GE1.out|refine below_set ?_ GE8.out)|exact HB.out)⟩
 ·rw [if_neg c4] at H
  have c4b0 : ((t2.length : Int) == 0) = false := beq_eq_false_iff_ne.mpr c4
  have c4b1 : ((t2.length : Int) != 0) = true := bne_iff_ne.mpr c4
  have c4b2 : ¬ (t2 = []) := fun h_ => c4 (by rw [h_]; rfl)
  simp only [Option.some.injEq, Prod.mk.injEq] at H
  obtain ⟨rfl, rfl, rfl, rfl⟩ := H
  go_enter Try.func33, Try.ntmps33
  go_wp2_with (first|((with_reducible refine gate_dst (N := 4) rfl ?_);refine box_event ?hg (N := 4) ?hd (cs := #[.int .i64 0, .int .i64 0, .int .i64 0]) (t := 27) ?hr ?_;(case hd => rfl);(case hg => rfl);(case hr => first|(go_simp;done)|(go_simp;rfl));intro gb1 hg w12 hbox hb;have n0_ := Aside0.mk (below_step (by repeat (first|(with_reducible first|exact HB.out|apply below_alloc|apply pw_below_drewN|apply below_drew1)|exact HB.out)) hb);have n1_ := Aside0.mk (hbox);have n2_ := Aside0.mk ((by rw [hg];exact (below_size (by repeat (first|(with_reducible first|exact HB.out|apply below_alloc|apply pw_below_drewN|apply below_drew1)|exact HB.out))) : w.heap.size ≤ gb1));have n3_ := Aside0.mk ((by rw [hg];exact (below_size (by repeat (first|(with_reducible first|exact HB.out|apply below_alloc|apply pw_below_drewN|apply below_drew1)|exact HB.out))) : w.heap.size ≤ gb1));clear HB;have HB := n0_;have BK1 := n1_;have GW1 := n2_;have GE1 := n3_;clear n0_ n1_ n2_ n3_;clear hb hbox hg)|((with_reducible refine gate_callee (f := 104) rfl ?_);refine goesL_ (some 9) rfl rfl Try.func104 (by kernel_rfl) rfl #[.slice A0 l0.length c0, .string a1] rfl (by (try simp only [List.map_toArray, List.map_cons, List.map_nil]);first|done|rfl|(simp only [List.length_drop, List.length_take];rfl)) ?_;(with_reducible refine (room_made.calls k _ _ l0 a1 t2 t5 t6 t7 _ ?side1 ?side2 A3.out).mono ?_);(case side1 => repeat (first|exact (Kd.C_below HR0.out HB.out)|(with_reducible refine Kd.C_alloc ?_ _)|(with_reducible refine Kd.C_drewN ?_ _)|(with_reducible refine Kd.C_drew ?_)));(case side2 => exact HC0.out);rintro e w13 ⟨v3, rfl, ho0, hb⟩;refine ⟨_, rfl, ?_⟩;have n0_ := Aside0.mk (Kd.R_lower ho0 (below_size (by repeat (first|(with_reducible first|exact HB.out|apply below_alloc|apply pw_below_drewN|apply below_drew1|refine below_set ?_ GE1.out)|exact HB.out))));have n1_ := Aside0.mk (blk_below (g := gb1) (o := .cells #[.int .i64 0, .int .i64 0, .int .i64 0] 27 (0, 0)) (by (with_reducible repeat (first|refine blk_drewN ?_ _|refine blk_drew ?_|refine blk_alloc ?_ _));exact BK1.out) hb);have n2_ := Aside0.mk (below_step (by repeat (first|(with_reducible first|exact HB.out|apply below_alloc|apply pw_below_drewN|apply below_drew1|refine below_set ?_ GE1.out)|exact HB.out)) hb);clear BK1;clear HB;have HO4 := n0_;have BK1 := n1_;have HB := n2_;clear n0_ n1_ n2_;(try clear hb);(try clear hb2);(try clear hk);(try clear hi);(try clear ho0))|((with_reducible refine gate_dst (N := 6) rfl ?_);refine box_event ?hg (N := 6) ?hd (cs := #[.slice none 0 0, .int .i64 0, .int .i64 0, .int .i64 0]) (t := 127) ?hr ?_;(case hd => rfl);(case hg => rfl);(case hr => first|(go_simp;done)|(go_simp;rfl));intro gb8 hg w14 hbox hb;have n0_ := Aside0.mk (Kd.R_below (by (with_reducible repeat (first|apply Kd.R_alloc|apply Kd.R_drewN|apply Kd.R_drew));exact HO4.out) hb);have n1_ := Aside0.mk (blk_below (g := gb1) (o := .cells #[.int .i64 0, .int .i64 0, .int .i64 0] 27 (0, 0)) (by (with_reducible repeat (first|refine blk_drewN ?_ _|refine blk_drew ?_|refine blk_alloc ?_ _));exact BK1.out) hb);have n2_ := Aside0.mk (below_step (by repeat (first|(with_reducible first|exact HB.out|apply below_alloc|apply pw_below_drewN|apply below_drew1|refine below_set ?_ GE1.out)|exact HB.out)) hb);have n3_ := Aside0.mk (hbox);have n4_ := Aside0.mk ((by rw [hg];exact (below_size (by repeat (first|(with_reducible first|exact HB.out|apply below_alloc|apply pw_below_drewN|apply below_drew1|refine below_set ?_ GE1.out)|exact HB.out))) : w.heap.size ≤ gb8));have n5_ := Aside0.mk ((by rw [hg];exact (below_size (by repeat (first|(with_reducible first|exact HB.out|apply below_alloc|apply pw_below_drewN|apply below_drew1|refine below_set ?_ GE1.out)|exact HB.out))) : w.heap.size ≤ gb8));have n6_ := Aside0.mk ((by rw [hg];exact Nat.ne_of_lt (blk_lt (g := gb1) (o := .cells #[.int .i64 0, .int .i64 0, .int .i64 0] 27 (0, 0)) (by (with_reducible repeat (first|refine blk_drewN ?_ _|refine blk_drew ?_|refine blk_alloc ?_ _));exact BK1.out)) : gb1 ≠ gb8));have n7_ := Aside0.mk ((by rw [hg];exact Nat.ne_of_gt (blk_lt (g := gb1) (o := .cells #[.int .i64 0, .int .i64 0, .int .i64 0] 27 (0, 0)) (by (with_reducible repeat (first|refine blk_drewN ?_ _|refine blk_drew ?_|refine blk_alloc ?_ _));exact BK1.out)) : gb8 ≠ gb1));clear HO4;clear BK1;clear HB;have HO4 := n0_;have BK1 := n1_;have HB := n2_;have BK8 := n3_;have GW8 := n4_;have GE8 := n5_;have NB1_8 := n6_;have NB8_1 := n7_;clear n0_ n1_ n2_ n3_ n4_ n5_ n6_ n7_;clear hb hbox hg;obtain ⟨Ao15, co15, eo15⟩ := Kd.R_slice HO4.out;subst eo15;have hnb16 := NB8_1.out;have hnc16 := NB1_8.out;have hcz17_0 : w14.cell? ⟨gb8, 0, none⟩ = some (.slice none 0 0) := (blk_cell BK8.out 0).trans rfl;have hcz17_1 : w14.cell? ⟨gb8, 1, none⟩ = some (.int .i64 0) := (blk_cell BK8.out 1).trans rfl;have hcz17_2 : w14.cell? ⟨gb8, 2, none⟩ = some (.int .i64 0) := (blk_cell BK8.out 2).trans rfl;have hcz17_3 : w14.cell? ⟨gb8, 3, none⟩ = some (.int .i64 0) := (blk_cell BK8.out 3).trans rfl;have hfz17_0 := blk_frozen BK8.out 0;have hfz17_1 := blk_frozen BK8.out 1;have hfz17_2 := blk_frozen BK8.out 2;have hfz17_3 := blk_frozen BK8.out 3;have hcz18_0 : w14.cell? ⟨gb1, 0, none⟩ = some (.int .i64 0) := (blk_cell BK1.out 0).trans rfl;have hcz18_1 : w14.cell? ⟨gb1, 1, none⟩ = some (.int .i64 0) := (blk_cell BK1.out 1).trans rfl;have hcz18_2 : w14.cell? ⟨gb1, 2, none⟩ = some (.int .i64 0) := (blk_cell BK1.out 2).trans rfl;have hfz18_0 := blk_frozen BK1.out 0;have hfz18_1 := blk_frozen BK1.out 1;have hfz18_2 := blk_frozen BK1.out 2))
  refine bodyPost_ret (results_ct rfl _ _ gb1 27 #[.int .i64 t5, .int .i64 t6, .int .i64 t7] (0, 0) _ rfl (by (with_reducible repeat (first|refine blk_drewN ?_ _|refine blk_drew ?_|refine blk_alloc ?_ _));refine blk_put (cs := #[.int .i64 t5, .int .i64 t6, .int .i64 0]) ?_ 2 _ rfl;(with_reducible repeat (first|refine blk_drewN ?_ _|refine blk_drew ?_|refine blk_alloc ?_ _));refine blk_put (cs := #[.int .i64 t5, .int .i64 0, .int .i64 0]) ?_ 1 _ rfl;(with_reducible repeat (first|refine blk_drewN ?_ _|refine blk_drew ?_|refine blk_alloc ?_ _));refine blk_put (cs := #[.int .i64 0, .int .i64 0, .int .i64 0]) ?_ 0 _ rfl;(with_reducible repeat (first|refine blk_drewN ?_ _|refine blk_drew ?_|refine blk_alloc ?_ _));refine blk_far ?_ NB1_8.out _;(with_reducible repeat (first|refine blk_drewN ?_ _|refine blk_drew ?_|refine blk_alloc ?_ _));refine blk_far ?_ NB1_8.out _;(with_reducible repeat (first|refine blk_drewN ?_ _|refine blk_drew ?_|refine blk_alloc ?_ _));refine blk_far ?_ NB1_8.out _;(with_reducible repeat (first|refine blk_drewN ?_ _|refine blk_drew ?_|refine blk_alloc ?_ _));refine blk_far ?_ NB1_8.out _;(with_reducible repeat (first|refine blk_drewN ?_ _|refine blk_drew ?_|refine blk_alloc ?_ _));exact BK1.out) Try.underlying27 rfl (by kernel_rfl)) rfl ?_
  exact ⟨by first|rfl|(simp [errW_none, errW_some] <;> rfl)|(simp [*, errW_none, errW_some] <;> rfl), by repeat (first|(with_reducible first|exact HB.out|apply below_alloc|apply pw_below_drewN|apply below_drew1|refine below_set ?_ GE1.out|refine below_set ?_ GE8.out)|exact HB.out)⟩
end Go.Proofs.Ytcgefpklljclgaa.Print

namespace Go.Proofs.Ytcgefpklljclgaa.Print
open Go.RowKit Go.Proofs.YtcgefpklljclgaaW.PrintWords Go.Proofs.YtcgefpklljclgaaW.PrintLast Go.Proofs.YtcgefpklljclgaaW.PrintMore
attribute [local go_sem] max2_int min2_int max_two min_two max_three min_three max_four min_four   -- for this text's walks alone
set_option linter.unusedVariables false
set_option linter.unusedSimpArgs false
/-! ### r10_Le: function 34 -/
def r10_Le.f (a0_0 : Int) (a0_1 : Int) (a0_2 : Int) (a1_0 : Int) (a1_1 : Int) (a1_2 : Int) : Option (Bool) := if a0_0 ≤ a1_0 then (if a0_1 ≤ a1_1 then (some (decide (a0_2 ≤ a1_2))) else (some false)) else (some false)
set_option maxHeartbeats 8000000 in
set_option maxRecDepth 100000 in
theorem r10_Le.calls (a0_0 : Int) (a0_1 : Int) (a0_2 : Int) (a1_0 : Int) (a1_1 : Int) (a1_2 : Int) (r : Bool) (w : World) (h : r10_Le.f a0_0 a0_1 a0_2 a1_0 a1_1 a1_2 = some r) :
  Calls Try.prog 34 #[.agg #[.int .i64 a0_0, .int .i64 a0_1, .int .i64 a0_2], .agg #[.int .i64 a1_0, .int .i64 a1_1, .int .i64 a1_2]] w fun e w' => e = .returned (.bool r) ∧ Below w.heap.size w w' := by
 have hu27 := Try.underlying27
 have HB := Aside0.mk (Below.refl w.heap.size w)
 have H : (if a0_0 ≤ a1_0 then (if a0_1 ≤ a1_1 then (some (decide (a0_2 ≤ a1_2))) else (some false)) else (some false)) = some r := h
 clear h
 by_cases c3 : a0_0 ≤ a1_0
 ·rw [if_pos c3] at H
  have c3b0 : decide (a0_0 ≤ a1_0) = true := decide_eq_true c3
  clear c3
  by_cases c4 : a0_1 ≤ a1_1
  ·rw [if_pos c4] at H
   have c4b0 : decide (a0_1 ≤ a1_1) = true := decide_eq_true c4
   clear c4
   obtain rfl := Option.some.inj H
   go_enter Try.func34, Try.ntmps34
   go_wp2_with (first|((with_reducible refine gate_dst (N := 2) rfl ?_);refine box_event ?hg (N := 2) ?hd (cs := #[.int .i64 a0_0, .int .i64 a0_1, .int .i64 a0_2]) (t := 27) ?hr ?_;(case hd => rfl);(case hg => rfl);(case hr => first|(go_simp;done)|(go_simp;rfl));intro gb1 hg w5 hbox hb;have n0_ := Aside0.mk (below_step (by repeat (first|(with_reducible first|exact HB.out|apply below_alloc|apply pw_below_drewN|apply below_drew1)|exact HB.out)) hb);have n1_ := Aside0.mk (hbox);have n2_ := Aside0.mk ((by rw [hg];exact (below_size (by repeat (first|(with_reducible first|exact HB.out|apply below_alloc|apply pw_below_drewN|apply below_drew1)|exact HB.out))) : w.heap.size ≤ gb1));have n3_ := Aside0.mk ((by rw [hg];exact (below_size (by repeat (first|(with_reducible first|exact HB.out|apply below_alloc|apply pw_below_drewN|apply below_drew1)|exact HB.out))) : w.heap.size ≤ gb1));clear HB;have HB := n0_;have BK1 := n1_;have GW1 := n2_;have GE1 := n3_;clear n0_ n1_ n2_ n3_;clear hb hbox hg)|((with_reducible refine gate_dst (N := 3) rfl ?_);refine box_event ?hg (N := 3) ?hd (cs := #[.int .i64 a1_0, .int .i64 a1_1, .int .i64 a1_2]) (t := 27) ?hr ?_;(case hd => rfl);(case hg => rfl);(case hr => first|(go_simp;done)|(go_simp;rfl));intro gb2 hg w6 hbox hb;have n0_ := Aside0.mk (blk_below (g := gb1) (o := .cells #[.int .i64 a0_0, .int .i64 a0_1, .int .i64 a0_2] 27 (0, 0)) (by (with_reducible repeat (first|refine blk_drewN ?_ _|refine blk_drew ?_|refine blk_alloc ?_ _));exact BK1.out) hb);have n1_ := Aside0.mk (below_step (by repeat (first|(with_reducible first|exact HB.out|apply below_alloc|apply pw_below_drewN|apply below_drew1|refine below_set ?_ GE1.out)|exact HB.out)) hb);have n2_ := Aside0.mk (hbox);have n3_ := Aside0.mk ((by rw [hg];exact (below_size (by repeat (first|(with_reducible first|exact HB.out|apply below_alloc|apply pw_below_drewN|apply below_drew1|refine below_set ?_ GE1.out)|exact HB.out))) : w.heap.size ≤ gb2));have n4_ := Aside0.mk ((by rw [hg];exact (below_size (by repeat (first|(with_reducible first|exact HB.out|apply below_alloc|apply pw_below_drewN|apply below_drew1|refine below_set ?_ GE1.out)|exact HB.out))) : w.heap.size ≤ gb2));have n5_ := Aside0.mk ((by rw [hg];exact Nat.ne_of_lt (blk_lt (g := gb1) (o := .cells #[.int .i64 a0_0, .int .i64 a0_1, .int .i64 a0_2] 27 (0, 0)) (by (with_reducible repeat (first|refine blk_drewN ?_ _|refine blk_drew ?_|refine blk_alloc ?_ _));exact BK1.out)) : gb1 ≠ gb2));have n6_ := Aside0.mk ((by rw [hg];exact Nat.ne_of_gt (blk_lt (g := gb1) (o := .cells #[.int .i64 a0_0, .int .i64 a0_1, .int .i64 a0_2] 27 (0, 0)) (by (with_reducible repeat (first|refine blk_drewN ?_ _|refine blk_drew ?_|refine blk_alloc ?_ _));exact BK1.out)) : gb2 ≠ gb1));clear BK1;clear HB;have BK1 := n0_;have HB := n1_;have BK2 := n2_;have GW2 := n3_;have GE2 := n4_;have NB1_2 := n5_;have NB2_1 := n6_;clear n0_ n1_ n2_ n3_ n4_ n5_ n6_;clear hb hbox hg;have hnb7 := NB1_2.out;have hnc7 := NB2_1.out;have hcz8_0 : w6.cell? ⟨gb1, 0, none⟩ = some (.int .i64 a0_0) := (blk_cell BK1.out 0).trans rfl;have hcz8_1 : w6.cell? ⟨gb1, 1, none⟩ = some (.int .i64 a0_1) := (blk_cell BK1.out 1).trans rfl;have hcz8_2 : w6.cell? ⟨gb1, 2, none⟩ = some (.int .i64 a0_2) := (blk_cell BK1.out 2).trans rfl;have hfz8_0 := blk_frozen BK1.out 0;have hfz8_1 := blk_frozen BK1.out 1;have hfz8_2 := blk_frozen BK1.out 2;have hcz9_0 : w6.cell? ⟨gb2, 0, none⟩ = some (.int .i64 a1_0) := (blk_cell BK2.out 0).trans rfl;have hcz9_1 : w6.cell? ⟨gb2, 1, none⟩ = some (.int .i64 a1_1) := (blk_cell BK2.out 1).trans rfl;have hcz9_2 : w6.cell? ⟨gb2, 2, none⟩ = some (.int .i64 a1_2) := (blk_cell BK2.out 2).trans rfl;have hfz9_0 := blk_frozen BK2.out 0;have hfz9_1 := blk_frozen BK2.out 1;have hfz9_2 := blk_frozen BK2.out 2))
   go_ret
   exact ⟨by first|rfl|(simp [errW_none, errW_some] <;> rfl)|(simp [*, errW_none, errW_some] <;> rfl), by repeat (first|(with_reducible first|exact HB.out|apply below_alloc|apply pw_below_drewN|apply below_drew1|refine below_set ?_ GE1.out|refine below_set ?_ GE2.out)|exact HB.out)⟩
  ·rw [if_neg c4] at H
   have c4b0 : decide (a0_1 ≤ a1_1) = false := decide_eq_false c4
   clear c4
   obtain rfl := Option.some.inj H
   go_enter Try.func34, Try.ntmps34
   go_wp2_with (first|((with_reducible refine gate_dst (N := 2) rfl ?_);refine box_event ?hg (N := 2) ?hd (cs := #[.int .i64 a0_0, .int .i64 a0_1, .int .i64 a0_2]) (t := 27) ?hr ?_;(case hd => rfl);(case hg => rfl);(case hr => first|(go_simp;done)|(go_simp;rfl));intro gb1 hg w10 hbox hb;have n0_ := Aside0.mk (below_step (by repeat (first|(with_reducible first|exact HB.out|apply below_alloc|apply pw_below_drewN|apply below_drew1)|exact HB.out)) hb);have n1_ := Aside0.mk (hbox);have n2_ := Aside0.mk ((by rw [hg];exact (below_size (by repeat (first|(with_reducible first|exact HB.out|apply below_alloc|apply pw_below_drewN|apply below_drew1)|exact HB.out))) : w.heap.size ≤ gb1));have n3_ := Aside0.mk ((by rw [hg];exact (below_size (by repeat (first|(with_reducible first|exact HB.out|apply below_alloc|apply pw_below_drewN|apply below_drew1)|exact HB.out))) : w.heap.size ≤ gb1));clear HB;have HB := n0_;have BK1 := n1_;have GW1 := n2_;have GE1 := n3_;clear n0_ n1_ n2_ n3_;clear hb hbox hg)|((with_reducible refine gate_dst (N := 3) rfl ?_);refine box_event ?hg (N := 3) ?hd (cs := #[.int .i64 a1_0, .int .i64 a1_1, .int .i64 a1_2]) (t := 27) ?hr ?_;(case hd => rfl);(case hg => rfl);(case hr => first|(go_simp;done)|(go_simp;rfl));intro gb2 hg w11 hbox hb;have n0_ := Aside0.mk (blk_below (g := gb1) (o := .cells #[.int .i64 a0_0, .int .i64 a0_1, .int .i64 a0_2] 27 (0, 0)) (by (with_reducible repeat (first|refine blk_drewN ?_ _|refine blk_drew ?_|refine blk_alloc ?_ _));exact BK1.out) hb);have n1_ := Aside0.mk (below_step (by repeat (first|(with_reducible first|exact HB.out|apply below_alloc|apply pw_below_drewN|apply below_drew1|refine below_set ?_ GE1.out)|exact HB.out)) hb);have n2_ := Aside0.mk (hbox);have n3_ := Aside0.mk ((by rw [hg];exact (below_size (by repeat (first|(with_reducible first|exact HB.out|apply below_alloc|apply pw_below_drewN|apply below_drew1|refine below_set ?_ GE1.out)|exact HB.out))) : w.heap.size ≤ gb2));have n4_ := Aside0.mk ((by rw [hg];exact (below_size (by repeat (first|(with_reducible first|exact HB.out|apply below_alloc|apply pw_below_drewN|apply below_drew1|refine below_set ?_ GE1.out)|exact HB.out))) : w.heap.size ≤ gb2));have n5_ := Aside0.mk ((by rw [hg];exact Nat.ne_of_lt (blk_lt (g := gb1) (o := .cells #[.int .i64 a0_0, .int .i64 a0_1, .int .i64 a0_2] 27 (0, 0)) (by (with_reducible repeat (first|refine blk_drewN ?_ _|refine blk_drew ?_|refine blk_alloc ?_ _));exact BK1.out)) : gb1 ≠ gb2));have n6_ := Aside0.mk ((by rw [hg];exact Nat.ne_of_gt (blk_lt (g := gb1) (o := .cells #[.int .i64 a0_0, .int .i64 a0_1, .int .i64 a0_2] 27 (0, 0)) (by (with_reducible repeat (first|refine blk_drewN ?_ _|refine blk_drew ?_|refine blk_alloc ?_ _));exact BK1.out)) : gb2 ≠ gb1));clear BK1;clear HB;have BK1 := n0_;have HB := n1_;have BK2 := n2_;have GW2 := n3_;have GE2 := n4_;have NB1_2 := n5_;have NB2_1 := n6_;clear n0_ n1_ n2_ n3_ n4_ n5_ n6_;clear hb hbox hg;have hnb12 := NB1_2.out;have hnc12 := NB2_1.out;have hcz13_0 : w11.cell? ⟨gb1, 0, none⟩ = some (.int .i64 a0_0) := (blk_cell BK1.out 0).trans rfl;have hcz13_1 : w11.cell? ⟨gb1, 1, none⟩ = some (.int .i64 a0_1) := (blk_cell BK1.out 1).trans rfl;have hcz13_2 : w11.cell? ⟨gb1, 2, none⟩ = some (.int .i64 a0_2) := (blk_cell BK1.out 2).trans rfl;have hfz13_0 := blk_frozen BK1.out 0;have hfz13_1 := blk_frozen BK1.out 1;have hfz13_2 := blk_frozen BK1.out 2;have hcz14_0 : w11.cell? ⟨gb2, 0, none⟩ = some (.int .i64 a1_0) := (blk_cell BK2.out 0).trans rfl;have hcz14_1 : w11.cell? ⟨gb2, 1, none⟩ = some (.int .i64 a1_1) := (blk_cell BK2.out 1).trans rfl;have hcz14_2 : w11.cell? ⟨gb2, 2, none⟩ = some (.int .i64 a1_2) := (blk_cell BK2.out 2).trans rfl;have hfz14_0 := blk_frozen BK2.out 0;have hfz14_1 := blk_frozen BK2.out 1;have hfz14_2 := blk_frozen BK2.out 2))
   go_ret
   exact ⟨by first|rfl|(simp [errW_none, errW_some] <;> rfl)|(simp [*, errW_none, errW_some] <;> rfl), by repeat (first|(with_reducible first|exact HB.out|apply below_alloc|apply pw_below_drewN|apply below_drew1|refine below_set ?_ GE1.out|refine below_set ?_ GE2.out)|exact HB.out)⟩
 ·rw [if_neg c3] at H
  have c3b0 : decide (a0_0 ≤ a1_0) = false := decide_eq_false c3
  clear c3
  obtain rfl := Option.some.inj H
  go_enter Try.func34, Try.ntmps34
  go_wp2_with (first|((with_reducible refine gate_dst (N := 2) rfl ?_);refine box_event ?hg (N := 2) ?hd (cs := #[.int .i64 a0_0, .int .i64 a0_1, .int .i64 a0_2]) (t := 27) ?hr ?_;(case hd => rfl);(case hg => rfl);(case hr => first|(go_simp;done)|(go_simp;rfl));intro gb1 hg w15 hbox hb;have n0_ := Aside0.mk (below_step (by repeat (first|(with_reducible first|exact HB.out|apply below_alloc|apply pw_below_drewN|apply below_drew1)|exact HB.out)) hb);have n1_ := Aside0.mk (hbox);have n2_ := Aside0.mk ((by rw [hg];exact (below_size (by repeat (first|(with_reducible first|exact HB.out|apply below_alloc|apply pw_below_drewN|apply below_drew1)|exact HB.out))) : w.heap.size ≤ gb1));have n3_ := Aside0.mk ((by rw [hg];exact (below_size (by repeat (first|(with_reducible first|exact HB.out|apply below_alloc|apply pw_below_drewN|apply below_drew1)|exact HB.out))) : w.heap.size ≤ gb1));clear HB;have HB := n0_;have BK1 := n1_;have GW1 := n2_;have GE1 := n3_;clear n0_ n1_ n2_ n3_;clear hb hbox hg)|((with_reducible refine gate_dst (N := 3) rfl ?_);refine box_event ?hg (N := 3) ?hd (cs := #[.int .i64 a1_0, .int .i64 a1_1, .int .i64 a1_2]) (t := 27) ?hr ?_;(case hd => rfl);(case hg => rfl);(case hr => first|(go_simp;done)|(go_simp;rfl));intro gb2 hg w16 hbox hb;have n0_ := Aside0.mk (blk_below (g := gb1) (o := .cells #[.int .i64 a0_0, .int .i64 a0_1, .int .i64 a0_2] 27 (0, 0)) (by (with_reducible repeat (first|refine blk_drewN ?_ _|refine blk_drew ?_|refine blk_alloc ?_ _));exact BK1.out) hb);have n1_ := Aside0.mk (below_step (by repeat (first|(with_reducible first|exact HB.out|apply below_alloc|apply pw_below_drewN|apply below_drew1|refine below_set ?_ GE1.out)|exact HB.out)) hb);have n2_ := Aside0.mk (hbox);have n3_ := Aside0.mk ((by rw [hg];exact (below_size (by repeat (first|(with_reducible first|exact HB.out|apply below_alloc|apply pw_below_drewN|apply below_drew1|refine below_set ?_ GE1.out)|exact HB.out))) : w.heap.size ≤ gb2));have n4_ := Aside0.mk ((by rw [hg];exact (below_size (by repeat (first|(with_reducible first|exact HB.out|apply below_alloc|apply pw_below_drewN|apply below_drew1|refine below_set ?_ GE1.out)|exact HB.out))) : w.heap.size ≤ gb2));have n5_ := Aside0.mk ((by rw [hg];exact Nat.ne_of_lt (blk_lt (g := gb1) (o := .cells #[.int .i64 a0_0, .int .i64 a0_1, .int .i64 a0_2] 27 (0, 0)) (by (with_reducible repeat (first|refine blk_drewN ?_ _|refine blk_drew ?_|refine blk_alloc ?_ _));exact BK1.out)) : gb1 ≠ gb2));have n6_ := Aside0.mk ((by rw [hg];exact Nat.ne_of_gt (blk_lt (g := gb1) (o := .cells #[.int .i64 a0_0, .int .i64 a0_1, .int .i64 a0_2] 27 (0, 0)) (by (with_reducible repeat (first|refine blk_drewN ?_ _|refine blk_drew ?_|refine blk_alloc ?_ _));exact BK1.out)) : gb2 ≠ gb1));clear BK1;clear HB;have BK1 := n0_;have HB := n1_;have BK2 := n2_;have GW2 := n3_;have GE2 := n4_;have NB1_2 := n5_;have NB2_1 := n6_;clear n0_ n1_ n2_ n3_ n4_ n5_ n6_;clear hb hbox hg;have hnb17 := NB1_2.out;have hnc17 := NB2_1.out;have hcz18_0 : w16.cell? ⟨gb1, 0, none⟩ = some (.int .i64 a0_0) := (blk_cell BK1.out 0).trans rfl;have hcz18_1 : w16.cell? ⟨gb1, 1, none⟩ = some (.int .i64 a0_1) := (blk_cell BK1.out 1).trans rfl;have hcz18_2 : w16.cell? ⟨gb1, 2, none⟩ = some (.int .i64 a0_2) := (blk_cell BK1.out 2).trans rfl;have hfz18_0 := blk_frozen BK1.out 0;have hfz18_1 := blk_frozen BK1.out 1;have hfz18_2 := blk_frozen BK1.out 2;have hcz19_0 : w16.cell? ⟨gb2, 0, none⟩ = some (.int .i64 a1_0) := (blk_cell BK2.out 0).trans rfl;have hcz19_1 : w16.cell? ⟨gb2, 1, none⟩ = some (.int .i64 a1_1) := (blk_cell BK2.out 1).trans rfl;have hcz19_2 : w16.cell? ⟨gb2, 2, none⟩ = some (.int .i64 a1_2) := (blk_cell BK2.out 2).trans rfl;have hfz19_0 := blk_frozen BK2.out 0;have hfz19_1 := blk_frozen BK2.out 1;have hfz19_2 := blk_frozen BK2.out 2))
  go_ret
  exact ⟨by first|rfl|(simp [errW_none, errW_some] <;> rfl)|(simp [*, errW_none, errW_some] <;> rfl), by repeat (first|(with_reducible first|exact HB.out|apply below_alloc|apply pw_below_drewN|apply below_drew1|refine below_set ?_ GE1.out|refine below_set ?_ GE2.out)|exact HB.out)⟩
end Go.Proofs.Ytcgefpklljclgaa.Print

namespace Go.Proofs.Ytcgefpklljclgaa.Print
open Go.RowKit Go.Proofs.YtcgefpklljclgaaW.PrintWords Go.Proofs.YtcgefpklljclgaaW.PrintLast Go.Proofs.YtcgefpklljclgaaW.PrintMore
attribute [local go_sem] max2_int min2_int max_two min_two max_three min_three max_four min_four   -- for this text's walks alone
set_option linter.unusedVariables false
set_option linter.unusedSimpArgs false
/-! ### r10_Find: function 50 -/
def r10_Find.l0 : Nat → List (S31) → ByteArray → Int → Option (Int)
 | 0, _, _, _ => none
 | k + 1, x0, x1, x5 => if x5 < (x0.length : Int) then (if 0 ≤ x5 then (if ((rd_T31 x0 x5).f0).toList = x1.toList then (some x5) else (r10_Find.l0 k x0 x1 (wrap64 (x5 + 1)))) else (none)) else (some (-1))
def r10_Find.f (k : Nat) (l0 : List (S31)) (a1 : ByteArray) : Option (Int) := r10_Find.l0 k l0 a1 0
theorem r10_Find.mono_l : ∀ k, (∀ y0 y1 y2, LeO (r10_Find.l0 k y0 y1 y2) (r10_Find.l0 (k + 1) y0 y1 y2))
 | 0 => fun _ _ _ r h => by simp [r10_Find.l0] at h
 | k + 1 => by
  have ih0 := r10_Find.mono_l k
  ·intro y0 y1 y2
   unfold r10_Find.l0
   repeat' first
   | (with_reducible exact ih0 _ _ _)
   | (with_reducible exact LeO.refl _)
   | (with_reducible exact LeO.none _)
   | (with_reducible refine LeO.ite ?_ ?_)
   | (with_reducible refine LeO.bind ?_ (fun _ => ?_))
   | exact ih0 _ _ _
   | exact LeO.none _
   | refine LeO.ite ?_ ?_
   | refine LeO.bind ?_ (fun _ => ?_)
theorem r10_Find.mono : ∀ a0 a1 k, LeO (r10_Find.f k a0 a1) (r10_Find.f (k + 1) a0 a1) := by
 intro a0 a1 k
 have ih0 := r10_Find.mono_l k
 unfold r10_Find.f
 repeat' first
   | (with_reducible exact ih0 _ _ _)
   | (with_reducible exact LeO.refl _)
   | (with_reducible exact LeO.none _)
   | (with_reducible refine LeO.ite ?_ ?_)
   | (with_reducible refine LeO.bind ?_ (fun _ => ?_))
   | exact ih0 _ _ _
   | exact LeO.none _
   | refine LeO.ite ?_ ?_
   | refine LeO.bind ?_ (fun _ => ?_)
set_option maxHeartbeats 8000000 in
set_option maxRecDepth 100000 in
theorem r10_Find.calls (k : Nat) (A0 : Option Addr) (c0 : Nat) (l0 : List (S31)) (a1 : ByteArray) (r : Int) (w : World) (hr0 : Kd.C k31 w A0 l0.length l0) (hc0 : l0.length ≤ c0) (h : r10_Find.f k l0 a1 = some r) :
  Calls Try.prog 50 #[.slice A0 l0.length c0, .string a1] w fun e w' => e = .returned (.int .i64 r) ∧ Drawn0 w w' := by
 have HR0 := Aside0.mk hr0
 have HC0 := Aside0.mk hc0
 clear hr0 hc0
 have H : (r10_Find.l0 k l0 a1 0) = some r := h
 clear h
 have H' := Aside0.mk H
 clear H
 go_enter Try.func50, Try.ntmps50
 go_wp2
 go_loopg [5] k (fun kq v5 w' => ∃ (x5_1 : Int), v5 = .int .i64 x5_1 ∧ Aside0 (r10_Find.l0 kq l0 a1 x5_1 = some r) ∧ Aside0 (kq ≤ k) ∧ Drawn0 w w')
 case atStart => exact ⟨(0), (by first | rfl | (simp; done) | (simp [*]; done)), H', ⟨Nat.le_refl _⟩, by repeat (first | exact Drawn0.refl _ | apply Drawn0.step)⟩
 case round =>
  clear H'
  try clear p2
  obtain ⟨x5_1, rfl, HA, HK1, ⟨m1, rfl⟩⟩ := hrel
  cases gk with
  | zero => exact absurd HA.out (by simp [r10_Find.l0])
  | succ k1 =>
   have H := HA.out
   clear HA
   simp only [r10_Find.l0] at H
   by_cases c3 : x5_1 < (l0.length : Int)
   ·rw [if_pos c3] at H
    have c3b0 : decide (x5_1 < (l0.length : Int)) = true := decide_eq_true c3
    clear c3
    by_cases c4 : 0 ≤ x5_1
    ·rw [if_pos c4] at H
     have c4b0 : decide (0 ≤ x5_1) = true := decide_eq_true c4
     clear c4
     by_cases c5 : ((rd_T31 l0 x5_1).f0).toList = a1.toList
     ·rw [if_pos c5] at H
      have c5b0 : (((rd_T31 l0 x5_1).f0).toList == a1.toList) = true := beq_iff_eq.mpr c5
      have c5b1 : (((rd_T31 l0 x5_1).f0).toList != a1.toList) = false := bne_eq_false_iff_eq.mpr c5
      clear c5
      obtain rfl := Option.some.inj H
      have p1 : 0 ≤ (x5_1 : Int) := of_decide_eq_true (by first|(with_reducible assumption)|assumption)
      have q1 : x5_1 < (l0.length : Int) := of_decide_eq_true (by first|(with_reducible assumption)|assumption)
      obtain ⟨ad1, e1, hx1_0, hx1_1, hx1_2, hx1_3, hx1_4, hx1_5, hx1_6, hx1_7, hx1_8, hx1_9, hx1_10, hx1_11⟩ := at_T31 HR0.out x5_1 p1 q1
      cases e1
      replace p1 := eq_true p1
      replace q1 := eq_true q1
      go_wp2
      go_ret
      exact ⟨by first | rfl | (simp; done) | (simp [*]; done), by repeat (first | exact Drawn0.refl _ | apply Drawn0.step)⟩
     ·rw [if_neg c5] at H
      have c5b0 : (((rd_T31 l0 x5_1).f0).toList == a1.toList) = false := beq_eq_false_iff_ne.mpr c5
      have c5b1 : (((rd_T31 l0 x5_1).f0).toList != a1.toList) = true := bne_iff_ne.mpr c5
      have H' := Aside0.mk H
      clear H
      have p1 : 0 ≤ (x5_1 : Int) := of_decide_eq_true (by first|(with_reducible assumption)|assumption)
      have q1 : x5_1 < (l0.length : Int) := of_decide_eq_true (by first|(with_reducible assumption)|assumption)
      obtain ⟨ad1, e1, hx1_0, hx1_1, hx1_2, hx1_3, hx1_4, hx1_5, hx1_6, hx1_7, hx1_8, hx1_9, hx1_10, hx1_11⟩ := at_T31 HR0.out x5_1 p1 q1
      cases e1
      replace p1 := eq_true p1
      replace q1 := eq_true q1
      go_wp2
      go_roundg k1
      case measure => have := HK1.out; omega
      case rel => exact ⟨(wrap64 (x5_1 + 1)), (by first|rfl|(simp;done)|(simp [*];done)), H', ⟨by have := HK1.out;omega⟩, by repeat (first|exact Drawn0.refl _|apply Drawn0.step)⟩
    ·rw [if_neg c4] at H
     exact absurd H (by simp)
   ·rw [if_neg c3] at H
    have c3b0 : decide (x5_1 < (l0.length : Int)) = false := decide_eq_false c3
    clear c3
    obtain rfl := Option.some.inj H
    go_wp2
    go_ret
    exact ⟨by first | rfl | (simp; done) | (simp [*]; done), by repeat (first | exact Drawn0.refl _ | apply Drawn0.step)⟩
end Go.Proofs.Ytcgefpklljclgaa.Print

namespace Go.Proofs.Ytcgefpklljclgaa.Print
open Go.RowKit Go.Proofs.YtcgefpklljclgaaW.PrintWords Go.Proofs.YtcgefpklljclgaaW.PrintLast Go.Proofs.YtcgefpklljclgaaW.PrintMore
attribute [local go_sem] max2_int min2_int max_two min_two max_three min_three max_four min_four   -- for this text's walks alone
set_option linter.unusedVariables false
set_option linter.unusedSimpArgs false
/-! ### r10_Add: function 63 -/
def r10_Add.f (a0_0 : Int) (a0_1 : Int) (a0_2 : Int) (a1_0 : Int) (a1_1 : Int) (a1_2 : Int) : Option (Int × Int × Int) := some (wrap64 (a0_0 + a1_0), wrap64 (a0_1 + a1_1), wrap64 (a0_2 + a1_2))
set_option maxHeartbeats 8000000 in
set_option maxRecDepth 100000 in
theorem r10_Add.calls (a0_0 : Int) (a0_1 : Int) (a0_2 : Int) (a1_0 : Int) (a1_1 : Int) (a1_2 : Int) (r1 : Int) (r2 : Int) (r3 : Int) (w : World) (h : r10_Add.f a0_0 a0_1 a0_2 a1_0 a1_1 a1_2 = some (r1, r2, r3)) :
  Calls Try.prog 63 #[.agg #[.int .i64 a0_0, .int .i64 a0_1, .int .i64 a0_2], .agg #[.int .i64 a1_0, .int .i64 a1_1, .int .i64 a1_2]] w fun e w' => e = .returned (.agg #[.int .i64 r1, .int .i64 r2, .int .i64 r3]) ∧ Below w.heap.size w w' := by
 have hu27 := Try.underlying27
 have HB := Aside0.mk (Below.refl w.heap.size w)
 have H : (some (wrap64 (a0_0 + a1_0), wrap64 (a0_1 + a1_1), wrap64 (a0_2 + a1_2))) = some (r1, r2, r3) := h
 clear h
 simp only [Option.some.injEq, Prod.mk.injEq] at H
 obtain ⟨rfl, rfl, rfl⟩ := H
 go_enter Try.func63, Try.ntmps63
 go_wp2_with (first|((with_reducible refine gate_dst (N := 2) rfl ?_);refine box_event ?hg (N := 2) ?hd (cs := #[.int .i64 a0_0, .int .i64 a0_1, .int .i64 a0_2]) (t := 27) ?hr ?_;(case hd => rfl);(case hg => rfl);(case hr => first|(go_simp;done)|(go_simp;rfl));intro gb1 hg w3 hbox hb;have n0_ := Aside0.mk (below_step (by repeat (first|(with_reducible first|exact HB.out|apply below_alloc|apply pw_below_drewN|apply below_drew1)|exact HB.out)) hb);have n1_ := Aside0.mk (hbox);have n2_ := Aside0.mk ((by rw [hg];exact (below_size (by repeat (first|(with_reducible first|exact HB.out|apply below_alloc|apply pw_below_drewN|apply below_drew1)|exact HB.out))) : w.heap.size ≤ gb1));have n3_ := Aside0.mk ((by rw [hg];exact (below_size (by repeat (first|(with_reducible first|exact HB.out|apply below_alloc|apply pw_below_drewN|apply below_drew1)|exact HB.out))) : w.heap.size ≤ gb1));clear HB;have HB := n0_;have BK1 := n1_;have GW1 := n2_;have GE1 := n3_;clear n0_ n1_ n2_ n3_;clear hb hbox hg)|((with_reducible refine gate_dst (N := 3) rfl ?_);refine box_event ?hg (N := 3) ?hd (cs := #[.int .i64 a1_0, .int .i64 a1_1, .int .i64 a1_2]) (t := 27) ?hr ?_;(case hd => rfl);(case hg => rfl);(case hr => first|(go_simp;done)|(go_simp;rfl));intro gb2 hg w4 hbox hb;have n0_ := Aside0.mk (blk_below (g := gb1) (o := .cells #[.int .i64 a0_0, .int .i64 a0_1, .int .i64 a0_2] 27 (0, 0)) (by (with_reducible repeat (first|refine blk_drewN ?_ _|refine blk_drew ?_|refine blk_alloc ?_ _));exact BK1.out) hb);have n1_ := Aside0.mk (below_step (by repeat (first|(with_reducible first|exact HB.out|apply below_alloc|apply pw_below_drewN|apply below_drew1|refine below_set ?_ GE1.out)|exact HB.out)) hb);have n2_ := Aside0.mk (hbox);have n3_ := Aside0.mk ((by rw [hg];exact (below_size (by repeat (first|(with_reducible first|exact HB.out|apply below_alloc|apply pw_below_drewN|apply below_drew1|refine below_set ?_ GE1.out)|exact HB.out))) : w.heap.size ≤ gb2));have n4_ := Aside0.mk ((by rw [hg];exact (below_size (by repeat (first|(with_reducible first|exact HB.out|apply below_alloc|apply pw_below_drewN|apply below_drew1|refine below_set ?_ GE1.out)|exact HB.out))) : w.heap.size ≤ gb2));have n5_ := Aside0.mk ((by rw [hg];exact Nat.ne_of_lt (blk_lt (g := gb1) (o := .cells #[.int .i64 a0_0, .int .i64 a0_1, .int .i64 a0_2] 27 (0, 0)) (by (with_reducible repeat (first|refine blk_drewN ?_ _|refine blk_drew ?_|refine blk_alloc ?_ _));exact BK1.out)) : gb1 ≠ gb2));have n6_ := Aside0.mk ((by rw [hg];exact Nat.ne_of_gt (blk_lt (g := gb1) (o := .cells #[.int .i64 a0_0, .int .i64 a0_1, .int .i64 a0_2] 27 (0, 0)) (by (with_reducible repeat (first|refine blk_drewN ?_ _|refine blk_drew ?_|refine blk_alloc ?_ _));exact BK1.out)) : gb2 ≠ gb1));clear BK1;clear HB;have BK1 := n0_;have HB := n1_;have BK2 := n2_;have GW2 := n3_;have GE2 := n4_;have NB1_2 := n5_;have NB2_1 := n6_;clear n0_ n1_ n2_ n3_ n4_ n5_ n6_;clear hb hbox hg)|((with_reducible refine gate_dst (N := 4) rfl ?_);refine box_event ?hg (N := 4) ?hd (cs := #[.int .i64 0, .int .i64 0, .int .i64 0]) (t := 27) ?hr ?_;(case hd => rfl);(case hg => rfl);(case hr => first|(go_simp;done)|(go_simp;rfl));intro gb3 hg w5 hbox hb;have n0_ := Aside0.mk (blk_below (g := gb1) (o := .cells #[.int .i64 a0_0, .int .i64 a0_1, .int .i64 a0_2] 27 (0, 0)) (by (with_reducible repeat (first|refine blk_drewN ?_ _|refine blk_drew ?_|refine blk_alloc ?_ _));exact BK1.out) hb);have n1_ := Aside0.mk (blk_below (g := gb2) (o := .cells #[.int .i64 a1_0, .int .i64 a1_1, .int .i64 a1_2] 27 (0, 0)) (by (with_reducible repeat (first|refine blk_drewN ?_ _|refine blk_drew ?_|refine blk_alloc ?_ _));exact BK2.out) hb);have n2_ := Aside0.mk (below_step (by repeat (first|(with_reducible first|exact HB.out|apply below_alloc|apply pw_below_drewN|apply below_drew1|refine below_set ?_ GE1.out|refine below_set ?_ GE2.out)|exact HB.out)) hb);have n3_ := Aside0.mk (hbox);have n4_ := Aside0.mk ((by rw [hg];exact (below_size (by repeat (first|(with_reducible first|exact HB.out|apply below_alloc|apply pw_below_drewN|apply below_drew1|refine below_set ?_ GE1.out|refine below_set ?_ GE2.out)|exact HB.out))) : w.heap.size ≤ gb3));have n5_ := Aside0.mk ((by rw [hg];exact (below_size (by repeat (first|(with_reducible first|exact HB.out|apply below_alloc|apply pw_below_drewN|apply below_drew1|refine below_set ?_ GE1.out|refine below_set ?_ GE2.out)|exact HB.out))) : w.heap.size ≤ gb3));have n6_ := Aside0.mk ((by rw [hg];exact Nat.ne_of_lt (blk_lt (g := gb1) (o := .cells #[.int .i64 a0_0, .int .i64 a0_1, .int .i64 a0_2] 27 (0, 0)) (by (with_reducible repeat (first|refine blk_drewN ?_ _|refine blk_drew ?_|refine blk_alloc ?_ _));exact BK1.out)) : gb1 ≠ gb3));have n7_ := Aside0.mk ((by rw [hg];exact Nat.ne_of_gt (blk_lt (g := gb1) (o := .cells #[.int .i64 a0_0, .int .i64 a0_1, .int .i64 a0_2] 27 (0, 0)) (by (with_reducible repeat (first|refine blk_drewN ?_ _|refine blk_drew ?_|refine blk_alloc ?_ _));exact BK1.out)) : gb3 ≠ gb1));have n8_ := Aside0.mk ((by rw [hg];exact Nat.ne_of_lt (blk_lt (g := gb2) (o := .cells #[.int .i64 a1_0, .int .i64 a1_1, .int .i64 a1_2] 27 (0, 0)) (by (with_reducible repeat (first|refine blk_drewN ?_ _|refine blk_drew ?_|refine blk_alloc ?_ _));exact BK2.out)) : gb2 ≠ gb3));have n9_ := Aside0.mk ((by rw [hg];exact Nat.ne_of_gt (blk_lt (g := gb2) (o := .cells #[.int .i64 a1_0, .int .i64 a1_1, .int .i64 a1_2] 27 (0, 0)) (by (with_reducible repeat (first|refine blk_drewN ?_ _|refine blk_drew ?_|refine blk_alloc ?_ _));exact BK2.out)) : gb3 ≠ gb2));clear BK1;clear BK2;clear HB;have BK1 := n0_;have BK2 := n1_;have HB := n2_;have BK3 := n3_;have GW3 := n4_;have GE3 := n5_;have NB1_3 := n6_;have NB3_1 := n7_;have NB2_3 := n8_;have NB3_2 := n9_;clear n0_ n1_ n2_ n3_ n4_ n5_ n6_ n7_ n8_ n9_;clear hb hbox hg;have hnb6 := NB1_2.out;have hnc6 := NB2_1.out;have hnb7 := NB1_3.out;have hnc7 := NB3_1.out;have hcz8_0 : w5.cell? ⟨gb1, 0, none⟩ = some (.int .i64 a0_0) := (blk_cell BK1.out 0).trans rfl;have hcz8_1 : w5.cell? ⟨gb1, 1, none⟩ = some (.int .i64 a0_1) := (blk_cell BK1.out 1).trans rfl;have hcz8_2 : w5.cell? ⟨gb1, 2, none⟩ = some (.int .i64 a0_2) := (blk_cell BK1.out 2).trans rfl;have hfz8_0 := blk_frozen BK1.out 0;have hfz8_1 := blk_frozen BK1.out 1;have hfz8_2 := blk_frozen BK1.out 2;have hnb9 := NB2_3.out;have hnc9 := NB3_2.out;have hcz10_0 : w5.cell? ⟨gb2, 0, none⟩ = some (.int .i64 a1_0) := (blk_cell BK2.out 0).trans rfl;have hcz10_1 : w5.cell? ⟨gb2, 1, none⟩ = some (.int .i64 a1_1) := (blk_cell BK2.out 1).trans rfl;have hcz10_2 : w5.cell? ⟨gb2, 2, none⟩ = some (.int .i64 a1_2) := (blk_cell BK2.out 2).trans rfl;have hfz10_0 := blk_frozen BK2.out 0;have hfz10_1 := blk_frozen BK2.out 1;have hfz10_2 := blk_frozen BK2.out 2;have hcz11_0 : w5.cell? ⟨gb3, 0, none⟩ = some (.int .i64 0) := (blk_cell BK3.out 0).trans rfl;have hcz11_1 : w5.cell? ⟨gb3, 1, none⟩ = some (.int .i64 0) := (blk_cell BK3.out 1).trans rfl;have hcz11_2 : w5.cell? ⟨gb3, 2, none⟩ = some (.int .i64 0) := (blk_cell BK3.out 2).trans rfl;have hfz11_0 := blk_frozen BK3.out 0;have hfz11_1 := blk_frozen BK3.out 1;have hfz11_2 := blk_frozen BK3.out 2))
 refine bodyPost_ret (results_cell_row rfl _ _ gb3 27 #[.int .i64 (wrap64 (a0_0 + a1_0)), .int .i64 (wrap64 (a0_1 + a1_1)), .int .i64 (wrap64 (a0_2 + a1_2))] (0, 0) _ rfl (by (with_reducible repeat (first|refine blk_drewN ?_ _|refine blk_drew ?_|refine blk_alloc ?_ _));refine blk_put (cs := #[.int .i64 (wrap64 (a0_0 + a1_0)), .int .i64 (wrap64 (a0_1 + a1_1)), .int .i64 0]) ?_ 2 _ rfl;(with_reducible repeat (first|refine blk_drewN ?_ _|refine blk_drew ?_|refine blk_alloc ?_ _));refine blk_put (cs := #[.int .i64 (wrap64 (a0_0 + a1_0)), .int .i64 0, .int .i64 0]) ?_ 1 _ rfl;(with_reducible repeat (first|refine blk_drewN ?_ _|refine blk_drew ?_|refine blk_alloc ?_ _));refine blk_put (cs := #[.int .i64 0, .int .i64 0, .int .i64 0]) ?_ 0 _ rfl;(with_reducible repeat (first|refine blk_drewN ?_ _|refine blk_drew ?_|refine blk_alloc ?_ _));exact BK3.out) Try.underlying27 rfl (by kernel_rfl)) rfl ?_
 exact ⟨by first|rfl|(simp [errW_none, errW_some] <;> rfl)|(simp [*, errW_none, errW_some] <;> rfl), by repeat (first|(with_reducible first|exact HB.out|apply below_alloc|apply pw_below_drewN|apply below_drew1|refine below_set ?_ GE1.out|refine below_set ?_ GE2.out|refine below_set ?_ GE3.out)|exact HB.out)⟩
end Go.Proofs.Ytcgefpklljclgaa.Print

namespace Go.Proofs.Ytcgefpklljclgaa.Print
open Go.RowKit Go.Proofs.YtcgefpklljclgaaW.PrintWords Go.Proofs.YtcgefpklljclgaaW.PrintLast Go.Proofs.YtcgefpklljclgaaW.PrintMore
attribute [local go_sem] max2_int min2_int max_two min_two max_three min_three max_four min_four   -- for this text's walks alone
set_option linter.unusedVariables false
set_option linter.unusedSimpArgs false
/-! ### r10_unit: function 123 -/
def r10_unit.f (a0 : Int) : Option (Bool) := if a0 ≥ 0 then (some (decide (a0 ≤ 1099511627776))) else (some false)
set_option maxHeartbeats 8000000 in
set_option maxRecDepth 100000 in
theorem r10_unit.calls (a0 : Int) (r : Bool) (w : World) (h : r10_unit.f a0 = some r) :
  Calls Try.prog 123 #[.int .i64 a0] w fun e w' => e = .returned (.bool r) ∧ Drawn0 w w' := by
 have H : (if a0 ≥ 0 then (some (decide (a0 ≤ 1099511627776))) else (some false)) = some r := h
 clear h
 by_cases c2 : a0 ≥ 0
 ·rw [if_pos c2] at H
  have c2b0 : decide (0 ≤ a0) = true := decide_eq_true c2
  clear c2
  obtain rfl := Option.some.inj H
  go_enter Try.func123, Try.ntmps123
  go_wp2
  go_ret
  exact ⟨by first | rfl | (simp; done) | (simp [*]; done), by repeat (first | exact Drawn0.refl _ | apply Drawn0.step)⟩
 ·rw [if_neg c2] at H
  have c2b0 : decide (0 ≤ a0) = false := decide_eq_false c2
  clear c2
  obtain rfl := Option.some.inj H
  go_enter Try.func123, Try.ntmps123
  go_wp2
  go_ret
  exact ⟨by first | rfl | (simp; done) | (simp [*]; done), by repeat (first | exact Drawn0.refl _ | apply Drawn0.step)⟩
end Go.Proofs.Ytcgefpklljclgaa.Print

namespace Go.Proofs.Ytcgefpklljclgaa.Print
open Go.RowKit Go.Proofs.YtcgefpklljclgaaW.PrintWords Go.Proofs.YtcgefpklljclgaaW.PrintLast Go.Proofs.YtcgefpklljclgaaW.PrintMore
attribute [local go_sem] max2_int min2_int max_two min_two max_three min_three max_four min_four   -- for this text's walks alone
set_option linter.unusedVariables false
set_option linter.unusedSimpArgs false
/-! ### r10_MayVec: function 65 -/
def r10_MayVec.f (a0_0 : Int) (a0_1 : Int) (a0_2 : Int) : Option (Bool) := (r10_unit.f a0_0).bind fun t2 => (if t2 = true then ((r10_unit.f a0_1).bind fun t3 => (if t3 = true then ((r10_unit.f a0_2).bind fun t4 => (some t4)) else (some false))) else (some false))
set_option maxHeartbeats 8000000 in
set_option maxRecDepth 100000 in
theorem r10_MayVec.calls (a0_0 : Int) (a0_1 : Int) (a0_2 : Int) (r : Bool) (w : World) (h : r10_MayVec.f a0_0 a0_1 a0_2 = some r) :
  Calls Try.prog 65 #[.agg #[.int .i64 a0_0, .int .i64 a0_1, .int .i64 a0_2]] w fun e w' => e = .returned (.bool r) ∧ Below w.heap.size w w' := by
 have hu27 := Try.underlying27
 have HB := Aside0.mk (Below.refl w.heap.size w)
 have H : ((r10_unit.f a0_0).bind fun t2 => (if t2 = true then ((r10_unit.f a0_1).bind fun t3 => (if t3 = true then ((r10_unit.f a0_2).bind fun t4 => (some t4)) else (some false))) else (some false))) = some r := h
 clear h
 replace H := Option.bind_eq_some_iff.mp H
 obtain ⟨t2, A20, H⟩ := H
 replace H : (if t2 = true then ((r10_unit.f a0_1).bind fun t3 => (if t3 = true then ((r10_unit.f a0_2).bind fun t4 => (some t4)) else (some false))) else (some false)) = some r := H
 have A2 := Aside0.mk A20
 clear A20
 by_cases c3 : t2 = true
 ·subst c3
  have H1 : ((r10_unit.f a0_1).bind fun t3 => (if t3 = true then ((r10_unit.f a0_2).bind fun t4 => (some t4)) else (some false))) = some r := by rw [if_pos rfl] at H; exact H
  clear H
  have H := H1
  clear H1
  replace H := Option.bind_eq_some_iff.mp H
  obtain ⟨t3, A40, H⟩ := H
  replace H : (if t3 = true then ((r10_unit.f a0_2).bind fun t4 => (some t4)) else (some false)) = some r := H
  have A4 := Aside0.mk A40
  clear A40
  by_cases c5 : t3 = true
  ·subst c5
   have H1 : ((r10_unit.f a0_2).bind fun t4 => (some t4)) = some r := by rw [if_pos rfl] at H; exact H
   clear H
   have H := H1
   clear H1
   replace H := Option.bind_eq_some_iff.mp H
   obtain ⟨t4, A60, H⟩ := H
   replace H : (some t4) = some r := H
   have A6 := Aside0.mk A60
   clear A60
   obtain rfl := Option.some.inj H
   go_enter Try.func65, Try.ntmps65
   go_wp2_with (first|((with_reducible refine gate_dst (N := 1) rfl ?_);refine box_event ?hg (N := 1) ?hd (cs := #[.int .i64 a0_0, .int .i64 a0_1, .int .i64 a0_2]) (t := 27) ?hr ?_;(case hd => rfl);(case hg => rfl);(case hr => first|(go_simp;done)|(go_simp;rfl));intro gb1 hg w7 hbox hb;have n0_ := Aside0.mk (below_step (by repeat (first|(with_reducible first|exact HB.out|apply below_alloc|apply pw_below_drewN|apply below_drew1)|exact HB.out)) hb);have n1_ := Aside0.mk (hbox);have n2_ := Aside0.mk ((by rw [hg];exact (below_size (by repeat (first|(with_reducible first|exact HB.out|apply below_alloc|apply pw_below_drewN|apply below_drew1)|exact HB.out))) : w.heap.size ≤ gb1));have n3_ := Aside0.mk ((by rw [hg];exact (below_size (by repeat (first|(with_reducible first|exact HB.out|apply below_alloc|apply pw_below_drewN|apply below_drew1)|exact HB.out))) : w.heap.size ≤ gb1));clear HB;have HB := n0_;have BK1 := n1_;have GW1 := n2_;have GE1 := n3_;clear n0_ n1_ n2_ n3_;clear hb hbox hg;have hcz8_0 : w7.cell? ⟨gb1, 0, none⟩ = some (.int .i64 a0_0) := (blk_cell BK1.out 0).trans rfl;have hcz8_1 : w7.cell? ⟨gb1, 1, none⟩ = some (.int .i64 a0_1) := (blk_cell BK1.out 1).trans rfl;have hcz8_2 : w7.cell? ⟨gb1, 2, none⟩ = some (.int .i64 a0_2) := (blk_cell BK1.out 2).trans rfl;have hfz8_0 := blk_frozen BK1.out 0;have hfz8_1 := blk_frozen BK1.out 1;have hfz8_2 := blk_frozen BK1.out 2)|((with_reducible refine gate_callee (f := 123) rfl ?_);refine goesL_ (some 5) rfl rfl Try.func123 (by kernel_rfl) rfl #[.int .i64 a0_0] rfl (by (try simp only [List.map_toArray, List.map_cons, List.map_nil]);first|done|rfl|(simp only [List.length_drop, List.length_take];rfl)) ?_;(with_reducible refine (r10_unit.calls a0_0 true _ A2.out).mono ?_);rintro e w' ⟨rfl, ⟨nd, rfl⟩⟩;refine ⟨_, rfl, ?_⟩)|(go_at_call 123;(with_reducible refine (r10_unit.calls a0_1 true _ A4.out).mono ?_);rintro e w' ⟨rfl, ⟨nd, rfl⟩⟩)|(go_at_call 123;(with_reducible refine (r10_unit.calls a0_2 t4 _ A6.out).mono ?_);rintro e w' ⟨rfl, ⟨nd, rfl⟩⟩))
   go_ret
   exact ⟨by first|rfl|(simp [errW_none, errW_some] <;> rfl)|(simp [*, errW_none, errW_some] <;> rfl), by repeat (first|(with_reducible first|exact HB.out|apply below_alloc|apply pw_below_drewN|apply below_drew1|refine below_set ?_ GE1.out)|exact HB.out)⟩
  ·replace c5 := Bool.eq_false_iff.mpr c5
   subst c5
   have H1 : (some false) = some r := by rw [if_neg (show ¬ (false = true) by decide)] at H; exact H
   clear H
   have H := H1
   clear H1
   obtain rfl := Option.some.inj H
   go_enter Try.func65, Try.ntmps65
   go_wp2_with (first|((with_reducible refine gate_dst (N := 1) rfl ?_);refine box_event ?hg (N := 1) ?hd (cs := #[.int .i64 a0_0, .int .i64 a0_1, .int .i64 a0_2]) (t := 27) ?hr ?_;(case hd => rfl);(case hg => rfl);(case hr => first|(go_simp;done)|(go_simp;rfl));intro gb1 hg w9 hbox hb;have n0_ := Aside0.mk (below_step (by repeat (first|(with_reducible first|exact HB.out|apply below_alloc|apply pw_below_drewN|apply below_drew1)|exact HB.out)) hb);have n1_ := Aside0.mk (hbox);have n2_ := Aside0.mk ((by rw [hg];exact (below_size (by repeat (first|(with_reducible first|exact HB.out|apply below_alloc|apply pw_below_drewN|apply below_drew1)|exact HB.out))) : w.heap.size ≤ gb1));have n3_ := Aside0.mk ((by rw [hg];exact (below_size (by repeat (first|(with_reducible first|exact HB.out|apply below_alloc|apply pw_below_drewN|apply below_drew1)|exact HB.out))) : w.heap.size ≤ gb1));clear HB;have HB := n0_;have BK1 := n1_;have GW1 := n2_;have GE1 := n3_;clear n0_ n1_ n2_ n3_;clear hb hbox hg;have hcz10_0 : w9.cell? ⟨gb1, 0, none⟩ = some (.int .i64 a0_0) := (blk_cell BK1.out 0).trans rfl;have hcz10_1 : w9.cell? ⟨gb1, 1, none⟩ = some (.int .i64 a0_1) := (blk_cell BK1.out 1).trans rfl;have hcz10_2 : w9.cell? ⟨gb1, 2, none⟩ = some (.int .i64 a0_2) := (blk_cell BK1.out 2).trans rfl;have hfz10_0 := blk_frozen BK1.out 0;have hfz10_1 := blk_frozen BK1.out 1;have hfz10_2 := blk_frozen BK1.out 2)|((with_reducible refine gate_callee (f := 123) rfl ?_);refine goesL_ (some 5) rfl rfl Try.func123 (by kernel_rfl) rfl #[.int .i64 a0_0] rfl (by (try simp only [List.map_toArray, List.map_cons, List.map_nil]);first|done|rfl|(simp only [List.length_drop, List.length_take];rfl)) ?_;(with_reducible refine (r10_unit.calls a0_0 true _ A2.out).mono ?_);rintro e w' ⟨rfl, ⟨nd, rfl⟩⟩;refine ⟨_, rfl, ?_⟩)|(go_at_call 123;(with_reducible refine (r10_unit.calls a0_1 false _ A4.out).mono ?_);rintro e w' ⟨rfl, ⟨nd, rfl⟩⟩))
   go_ret
   exact ⟨by first|rfl|(simp [errW_none, errW_some] <;> rfl)|(simp [*, errW_none, errW_some] <;> rfl), by repeat (first|(with_reducible first|exact HB.out|apply below_alloc|apply pw_below_drewN|apply below_drew1|refine below_set ?_ GE1.out)|exact HB.out)⟩
 ·replace c3 := Bool.eq_false_iff.mpr c3
  subst c3
  have H1 : (some false) = some r := by rw [if_neg (show ¬ (false = true) by decide)] at H; exact H
  clear H
  have H := H1
  clear H1
  obtain rfl := Option.some.inj H
  go_enter Try.func65, Try.ntmps65
  go_wp2_with (first|((with_reducible refine gate_dst (N := 1) rfl ?_);refine box_event ?hg (N := 1) ?hd (cs := #[.int .i64 a0_0, .int .i64 a0_1, .int .i64 a0_2]) (t := 27) ?hr ?_;(case hd => rfl);(case hg => rfl);(case hr => first|(go_simp;done)|(go_simp;rfl));intro gb1 hg w11 hbox hb;have n0_ := Aside0.mk (below_step (by repeat (first|(with_reducible first|exact HB.out|apply below_alloc|apply pw_below_drewN|apply below_drew1)|exact HB.out)) hb);have n1_ := Aside0.mk (hbox);have n2_ := Aside0.mk ((by rw [hg];exact (below_size (by repeat (first|(with_reducible first|exact HB.out|apply below_alloc|apply pw_below_drewN|apply below_drew1)|exact HB.out))) : w.heap.size ≤ gb1));have n3_ := Aside0.mk ((by rw [hg];exact (below_size (by repeat (first|(with_reducible first|exact HB.out|apply below_alloc|apply pw_below_drewN|apply below_drew1)|exact HB.out))) : w.heap.size ≤ gb1));clear HB;have HB := n0_;have BK1 := n1_;have GW1 := n2_;have GE1 := n3_;clear n0_ n1_ n2_ n3_;clear hb hbox hg;have hcz12_0 : w11.cell? ⟨gb1, 0, none⟩ = some (.int .i64 a0_0) := (blk_cell BK1.out 0).trans rfl;have hcz12_1 : w11.cell? ⟨gb1, 1, none⟩ = some (.int .i64 a0_1) := (blk_cell BK1.out 1).trans rfl;have hcz12_2 : w11.cell? ⟨gb1, 2, none⟩ = some (.int .i64 a0_2) := (blk_cell BK1.out 2).trans rfl;have hfz12_0 := blk_frozen BK1.out 0;have hfz12_1 := blk_frozen BK1.out 1;have hfz12_2 := blk_frozen BK1.out 2)|((with_reducible refine gate_callee (f := 123) rfl ?_);refine goesL_ (some 5) rfl rfl Try.func123 (by kernel_rfl) rfl #[.int .i64 a0_0] rfl (by (try simp only [List.map_toArray, List.map_cons, List.map_nil]);first|done|rfl|(simp only [List.length_drop, List.length_take];rfl)) ?_;(with_reducible refine (r10_unit.calls a0_0 false _ A2.out).mono ?_);rintro e w' ⟨rfl, ⟨nd, rfl⟩⟩;refine ⟨_, rfl, ?_⟩))
  go_ret
  exact ⟨by first|rfl|(simp [errW_none, errW_some] <;> rfl)|(simp [*, errW_none, errW_some] <;> rfl), by repeat (first|(with_reducible first|exact HB.out|apply below_alloc|apply pw_below_drewN|apply below_drew1|refine below_set ?_ GE1.out)|exact HB.out)⟩
end Go.Proofs.Ytcgefpklljclgaa.Print

namespace Go.Proofs.Ytcgefpklljclgaa.Print
open Go.RowKit Go.Proofs.YtcgefpklljclgaaW.PrintWords Go.Proofs.YtcgefpklljclgaaW.PrintLast Go.Proofs.YtcgefpklljclgaaW.PrintMore
attribute [local go_sem] max2_int min2_int max_two min_two max_three min_three max_four min_four   -- for this text's walks alone
set_option linter.unusedVariables false
set_option linter.unusedSimpArgs false
/-! ### r10_MayName: function 105 -/
def r10_MayName.f (a0 : ByteArray) : Option (Bool) := if a0.toList = ([] : List UInt8) then (some false) else (some (decide ((a0.size : Int) ≤ 24)))
set_option maxHeartbeats 8000000 in
set_option maxRecDepth 100000 in
theorem r10_MayName.calls (a0 : ByteArray) (r : Bool) (w : World) (h : r10_MayName.f a0 = some r) :
  Calls Try.prog 105 #[.string a0] w fun e w' => e = .returned (.bool r) ∧ Drawn0 w w' := by
 have H : (if a0.toList = ([] : List UInt8) then (some false) else (some (decide ((a0.size : Int) ≤ 24)))) = some r := h
 clear h
 by_cases c2 : a0.toList = ([] : List UInt8)
 ·rw [if_pos c2] at H
  have c2b0 : (a0.toList == ([] : List UInt8)) = true := beq_iff_eq.mpr c2
  have c2b1 : (a0.toList != ([] : List UInt8)) = false := bne_eq_false_iff_eq.mpr c2
  clear c2
  obtain rfl := Option.some.inj H
  go_enter Try.func105, Try.ntmps105
  go_wp2
  go_ret
  exact ⟨by first | rfl | (simp; done) | (simp [*]; done), by repeat (first | exact Drawn0.refl _ | apply Drawn0.step)⟩
 ·rw [if_neg c2] at H
  have c2b0 : (a0.toList == ([] : List UInt8)) = false := beq_eq_false_iff_ne.mpr c2
  have c2b1 : (a0.toList != ([] : List UInt8)) = true := bne_iff_ne.mpr c2
  obtain rfl := Option.some.inj H
  go_enter Try.func105, Try.ntmps105
  go_wp2
  go_ret
  exact ⟨by first | rfl | (simp; done) | (simp [*]; done), by repeat (first | exact Drawn0.refl _ | apply Drawn0.step)⟩
end Go.Proofs.Ytcgefpklljclgaa.Print

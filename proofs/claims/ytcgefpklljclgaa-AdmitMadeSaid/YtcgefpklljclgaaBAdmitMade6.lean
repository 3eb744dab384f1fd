/- A part of the proof of AdmitMade: the machine's side by the kit's print, contracts and lemmas by this session. -/
import Derived.Laws.Strings
import Derived.Shelf.Abstract
import Derived.Test.YtcgefpklljclgaaRows
import Derived.WalkKit
import Derived.ProofKit
import Derived.OpenShut
import Derived.JoinedOf
import Derived.SizedLaws
import Derived.ChangeSlices
import Derived.Test.YtcgefpklljclgaaBAdmitMade1
import Derived.Test.YtcgefpklljclgaaBAdmitMade2
import Derived.Test.YtcgefpklljclgaaBAdmitMade3
import Derived.Test.YtcgefpklljclgaaBAdmitMade4
import Derived.Test.YtcgefpklljclgaaBAdmitMade5
namespace Go.Proofs.Ytcgefpklljclgaa.Print
open Go.RowKit Go.Proofs.YtcgefpklljclgaaW.PrintWords Go.Proofs.YtcgefpklljclgaaW.PrintLast
set_option linter.unusedVariables false
set_option linter.unusedSimpArgs false
abbrev Item := S31
abbrev Vec := S27
abbrev zItem : Item := z31
theorem rd_item (l : List Item) (i : Int) : rd_T31 l i = l.getD i.toNat zItem := rfl
instance baLawful : LawfulBEq ByteArray where
  eq_of_beq {a b} h := by
    obtain ⟨a⟩ := a
    obtain ⟨b⟩ := b
    have : (a == b) = true := h
    rw [eq_of_beq this]
  rfl {a} := by
    obtain ⟨a⟩ := a
    show (a == a) = true
    exact beq_self_eq_true a
/-- a name is its bytes -/
theorem nm_inj {a b : ByteArray} : a.toList = b.toList ↔ a = b := by
  constructor
  · intro h
    rw [ByteArray.toList_eq, ByteArray.toList_eq] at h
    exact ByteArray.ext (Array.toList_inj.1 h)
  · rintro rfl; rfl
theorem nm_beq (a b : ByteArray) : (a.toList == b.toList) = decide (a = b) := by
  rw [Bool.eq_iff_iff, beq_iff_eq, nm_inj, decide_eq_true_iff]
theorem nm_empty {a : ByteArray} : a.toList = ([] : List UInt8) ↔ a = ⟨#[]⟩ := by
  rw [← nm_inj]; rw [show (ByteArray.mk #[]).toList = [] from by rw [ByteArray.toList_eq]]
theorem w64 {n : Int} (h0 : -9223372036854775808 ≤ n) (h1 : n ≤ 9223372036854775807) : wrap64 n = n := by unfold wrap64; omega
/-! the place of a name -/
def look (l : List Item) (n : ByteArray) : Option Item := l.find? (fun x => x.f0 = n)
def fnd (l : List Item) (n : ByteArray) : Int := fidx (fun x : Item => x.f0.toList == n.toList) l 0
theorem fidx_none {α : Type} {p : α → Bool} : ∀ {l : List α} {i : Int}, (∀ x ∈ l, p x = false) → fidx p l i = -1
  | [], _, _ => rfl
  | x :: l, i, h => by
    unfold fidx
    rw [if_neg (by rw [h x (by simp)]; simp)]
    exact fidx_none (fun y hy => h y (by simp [hy]))
theorem fidx_some {α : Type} {p : α → Bool} (z : α) : ∀ {l : List α} {i : Int} {x : α}, l.find? p = some x → ∃ j : Nat, j < l.length ∧ fidx p l i = i + j ∧ l.getD j z = x ∧ p x = true ∧ ∀ m, m < j → p (l.getD m z) = false
  | [], _, _, h => by simp at h
  | y :: l, i, x, h => by
    unfold fidx
    by_cases hy : p y = true
    · rw [if_pos hy]
      simp only [List.find?_cons, hy] at h
      obtain rfl := Option.some.inj h
      exact ⟨0, by simp, by simp, by simp, hy, fun m hm => by omega⟩
    · rw [if_neg hy]
      have hy' : p y = false := by simpa using hy
      simp only [List.find?_cons, hy'] at h
      obtain ⟨j, hj, h1, h2, h3, h4⟩ := fidx_some z (i := i + 1) h
      refine ⟨j + 1, by simp; omega, by rw [h1]; omega, by simpa using h2, h3, fun m hm => ?_⟩
      cases m with
      | zero => simpa using hy'
      | succ m => simpa using h4 m (by omega)
theorem look_pred (n : ByteArray) : (fun x : Item => x.f0.toList == n.toList) = (fun x : Item => decide (x.f0 = n)) := by
  funext x; exact nm_beq _ _
theorem look_mem {l : List Item} {n : ByteArray} {x : Item} (h : look l n = some x) : x ∈ l ∧ x.f0 = n := by
  unfold look at h
  exact ⟨List.mem_of_find?_eq_some h, by simpa using List.find?_some h⟩
theorem look_none {l : List Item} {n : ByteArray} : look l n = none ↔ ∀ x ∈ l, x.f0 ≠ n := by
  unfold look
  simp
theorem fnd_none {l : List Item} {n : ByteArray} (h : look l n = none) : fnd l n = -1 := by
  unfold fnd
  refine fidx_none fun x hx => ?_
  rw [nm_beq]
  simpa using look_none.1 h x hx
theorem fnd_some {l : List Item} {n : ByteArray} {x : Item} (h : look l n = some x) : ∃ j : Nat, j < l.length ∧ fnd l n = j ∧ l.getD j zItem = x ∧ x.f0 = n ∧ ∀ m, m < j → (l.getD m zItem).f0 ≠ n := by
  have h' : l.find? (fun x : Item => x.f0.toList == n.toList) = some x := by rw [look_pred]; exact h
  obtain ⟨j, h1, h2, h3, h4, h5⟩ := fidx_some zItem (i := 0) h'
  refine ⟨j, h1, by unfold fnd; rw [h2]; omega, h3, by simpa [nm_beq] using h4, fun m hm => ?_⟩
  simpa [nm_beq] using h5 m hm
theorem fnd_lt (l : List Item) (n : ByteArray) : fnd l n < l.length := by
  cases h : look l n with
  | none => rw [fnd_none h]; omega
  | some x => obtain ⟨j, h1, h2, _⟩ := fnd_some h; omega
theorem fnd_neg {l : List Item} {n : ByteArray} : fnd l n < 0 ↔ look l n = none := by
  cases h : look l n with
  | none => rw [fnd_none h]; simp
  | some x => obtain ⟨j, h1, h2, _⟩ := fnd_some h; simp; omega
theorem fnd_ge {l : List Item} {n : ByteArray} : 0 ≤ fnd l n ↔ ∃ x, look l n = some x := by
  cases h : look l n with
  | none => rw [fnd_none h]; simp
  | some x => obtain ⟨j, h1, h2, _⟩ := fnd_some h; simp; omega
theorem fnd_rd {l : List Item} {n : ByteArray} {x : Item} (h : look l n = some x) : rd_T31 l (fnd l n) = x := by
  obtain ⟨j, h1, h2, h3, _⟩ := fnd_some h
  rw [rd_item, h2, Int.toNat_natCast]; exact h3
theorem tree_Find_eq (l : List Item) (n : ByteArray) : tree_Find.f l n = some (fnd l n) := rfl
/-! the way up -/
inductive Chain (l : List Item) : ByteArray → List ByteArray → Prop where
  | nil {n : ByteArray} : look l n = none → Chain l n []
  | cons {n : ByteArray} {x : Item} {us : List ByteArray} : look l n = some x → Chain l x.f1 us → Chain l n (n :: us)
def upGo (l : List Item) : Nat → ByteArray → List ByteArray
  | 0, _ => []
  | m + 1, n => match look l n with
    | none => []
    | some x => n :: upGo l m x.f1
def up (l : List Item) (n : ByteArray) : List ByteArray := upGo l (l.length + 1) n
theorem upGo_none {l : List Item} {n : ByteArray} (h : look l n = none) (m : Nat) : upGo l m n = [] := by
  cases m with
  | zero => rfl
  | succ m => unfold upGo; rw [h]
theorem upGo_some {l : List Item} {n : ByteArray} {x : Item} (h : look l n = some x) (m : Nat) : upGo l (m + 1) n = n :: upGo l m x.f1 := by
  rw [upGo.eq_2, h]
theorem Chain.det {l : List Item} {n : ByteArray} {us : List ByteArray} (h : Chain l n us) : ∀ {vs : List ByteArray}, Chain l n vs → us = vs := by
  induction h with
  | nil h =>
    intro vs k
    cases k with
    | nil _ => rfl
    | cons k _ => rw [h] at k; cases k
  | cons h _ ih =>
    intro vs k
    cases k with
    | nil k => rw [h] at k; cases k
    | cons k k2 =>
      rw [h] at k
      cases k
      rw [ih k2]
theorem Chain.upGo {l : List Item} {n : ByteArray} {us : List ByteArray} (h : Chain l n us) : ∀ m, us.length ≤ m → upGo l m n = us := by
  induction h with
  | nil h => intro m _; exact upGo_none h m
  | cons h _ ih =>
    intro m hm
    cases m with
    | zero => simp at hm
    | succ m =>
      rw [upGo_some h, ih m (by simpa using hm)]
theorem upGo_chain (l : List Item) : ∀ (m : Nat) (n : ByteArray), (upGo l m n).length < m → Chain l n (upGo l m n)
  | 0, _, h => by simp [upGo] at h
  | m + 1, n, h => by
    cases hl : look l n with
    | none => rw [upGo_none hl]; exact .nil hl
    | some x =>
      rw [upGo_some hl] at h ⊢
      exact .cons hl (upGo_chain l m x.f1 (by simpa using h))
theorem up_chain {l : List Item} {n : ByteArray} (h : (up l n).length ≤ l.length) : Chain l n (up l n) := upGo_chain l _ n (by unfold up at h; omega)
theorem Chain.suffix {l : List Item} {n : ByteArray} {us : List ByteArray} (h : Chain l n us) : ∀ {m : ByteArray}, m ∈ us → ∃ vs ws, us = ws ++ vs ∧ Chain l m vs ∧ ∃ vt, vs = m :: vt := by
  induction h with
  | nil _ => intro m hm; cases hm
  | @cons n x us h k ih =>
    intro m hm
    rcases List.mem_cons.1 hm with rfl | hm
    · exact ⟨_, [], rfl, .cons h k, _, rfl⟩
    · obtain ⟨vs, ws, e, hc, he⟩ := ih hm
      exact ⟨vs, n :: ws, by rw [e]; rfl, hc, he⟩
theorem Chain.mem_look {l : List Item} {n : ByteArray} {us : List ByteArray} (h : Chain l n us) {m : ByteArray} (hm : m ∈ us) : ∃ x, look l m = some x := by
  obtain ⟨vs, ws, _, hc, vt, rfl⟩ := h.suffix hm
  cases hc with
  | cons h _ => exact ⟨_, h⟩
theorem Chain.nodup {l : List Item} {n : ByteArray} {us : List ByteArray} (h : Chain l n us) : us.Nodup := by
  induction h with
  | nil _ => simp
  | @cons n x us h k ih =>
    rw [List.nodup_cons]
    refine ⟨fun hm => ?_, ih⟩
    obtain ⟨vs, ws, e, hc, _⟩ := k.suffix hm
    have := hc.det (.cons h k)
    rw [this] at e
    have := congrArg List.length e
    simp at this
    omega
theorem Chain.len {l : List Item} {n : ByteArray} {us : List ByteArray} (h : Chain l n us) : us.length ≤ l.length := by
  have := h.nodup.length_le_of_subset (l₂ := l.map (·.f0)) (fun m hm => by
    obtain ⟨x, hx⟩ := h.mem_look hm
    obtain ⟨h1, rfl⟩ := look_mem hx
    exact List.mem_map_of_mem h1)
  simpa using this
theorem Chain.up {l : List Item} {n : ByteArray} {us : List ByteArray} (h : Chain l n us) : up l n = us := h.upGo _ (by have := h.len; omega)
theorem up_len_iff {l : List Item} {n : ByteArray} : (up l n).length ≤ l.length ↔ ∃ us, Chain l n us :=
  ⟨fun h => ⟨_, up_chain h⟩, fun ⟨us, h⟩ => by rw [h.up]; exact h.len⟩
end Go.Proofs.Ytcgefpklljclgaa.Print

namespace Go.Proofs.Ytcgefpklljclgaa.Print
open Go.RowKit Go.Proofs.YtcgefpklljclgaaW.PrintWords Go.Proofs.YtcgefpklljclgaaW.PrintLast
set_option linter.unusedVariables false
set_option linter.unusedSimpArgs false
/-! names in order -/
def lt (a b : ByteArray) : Bool := Op.bytesLess a.toList b.toList
theorem bl_irrefl : ∀ a : List UInt8, Op.bytesLess a a = false
  | [] => rfl
  | x :: a => by unfold Op.bytesLess; simp [bl_irrefl a]
theorem bl_trans : ∀ {a b c : List UInt8}, Op.bytesLess a b = true → Op.bytesLess b c = true → Op.bytesLess a c = true
  | [], [], _, h, _ => by simp [Op.bytesLess] at h
  | [], _ :: _, [], _, k => by simp [Op.bytesLess] at k
  | [], _ :: _, _ :: _, _, _ => by simp [Op.bytesLess]
  | _ :: _, [], _, h, _ => by simp [Op.bytesLess] at h
  | _ :: _, _ :: _, [], _, k => by simp [Op.bytesLess] at k
  | x :: a, y :: b, z :: c, h, k => by
    simp only [Op.bytesLess, Bool.or_eq_true, Bool.and_eq_true, decide_eq_true_eq, beq_iff_eq] at h k ⊢
    rcases h with h | ⟨rfl, h⟩
    · rcases k with k | ⟨rfl, k⟩
      · exact .inl (UInt8.lt_trans h k)
      · exact .inl h
    · rcases k with k | ⟨rfl, k⟩
      · exact .inl k
      · exact .inr ⟨rfl, bl_trans h k⟩
theorem bl_total : ∀ {a b : List UInt8}, Op.bytesLess a b = false → a ≠ b → Op.bytesLess b a = true
  | [], [], _, h => absurd rfl h
  | [], _ :: _, h, _ => by simp [Op.bytesLess] at h
  | _ :: _, [], _, _ => by simp [Op.bytesLess]
  | x :: a, y :: b, h, k => by
    simp only [Op.bytesLess, Bool.or_eq_true, Bool.or_eq_false_iff, Bool.and_eq_false_iff, Bool.and_eq_true, decide_eq_true_eq, decide_eq_false_iff_not, beq_iff_eq, beq_eq_false_iff_ne] at h ⊢
    obtain ⟨h1, h2⟩ := h
    by_cases e : x = y
    · subst e
      rcases h2 with h2 | h2
      · exact absurd rfl h2
      · exact .inr ⟨rfl, bl_total h2 (fun e => k (by rw [e]))⟩
    · left
      have h3 : ¬ x.toNat < y.toNat := by rwa [← UInt8.lt_iff_toNat_lt]
      have h4 : x.toNat ≠ y.toNat := fun q => e (UInt8.toNat_inj.1 q)
      rw [UInt8.lt_iff_toNat_lt]; omega
theorem lt_irrefl (a : ByteArray) : lt a a = false := bl_irrefl _
theorem lt_trans {a b c : ByteArray} (h : lt a b = true) (k : lt b c = true) : lt a c = true := bl_trans h k
theorem lt_total {a b : ByteArray} (h : lt a b = false) (k : a ≠ b) : lt b a = true := bl_total h (fun e => k (nm_inj.1 e))
theorem lt_ne {a b : ByteArray} (h : lt a b = true) : a ≠ b := by rintro rfl; rw [lt_irrefl] at h; cases h
/-! amounts -/
inductive Comp where | cpu | mem | pods
def Comp.of : Comp → Vec → Int | .cpu, v => v.f0 | .mem, v => v.f1 | .pods, v => v.f2
theorem vec_ext {a b : Vec} (h : ∀ c : Comp, c.of a = c.of b) : a = b := by
  cases a; cases b
  have h0 := h .cpu; have h1 := h .mem; have h2 := h .pods
  simp [Comp.of] at h0 h1 h2
  simp [h0, h1, h2]
def vadd (a b : Vec) : Vec := ⟨a.f0 + b.f0, a.f1 + b.f1, a.f2 + b.f2⟩
theorem of_vadd (c : Comp) (a b : Vec) : c.of (vadd a b) = c.of a + c.of b := by cases c <;> rfl
def MayP (v : Vec) : Prop := ∀ c : Comp, 0 ≤ c.of v ∧ c.of v ≤ 1099511627776
def LeP (a b : Vec) : Prop := ∀ c : Comp, c.of a ≤ c.of b
theorem comp_all {p : Comp → Prop} : (∀ c, p c) ↔ p .cpu ∧ p .mem ∧ p .pods :=
  ⟨fun h => ⟨h _, h _, h _⟩, fun ⟨a, b, d⟩ c => by cases c <;> assumption⟩
instance (v : Vec) : Decidable (MayP v) := decidable_of_iff _ comp_all.symm
instance (a b : Vec) : Decidable (LeP a b) := decidable_of_iff _ comp_all.symm
theorem mayP_iff {a b d : Int} : MayP ⟨a, b, d⟩ ↔ (0 ≤ a ∧ a ≤ 1099511627776) ∧ (0 ≤ b ∧ b ≤ 1099511627776) ∧ (0 ≤ d ∧ d ≤ 1099511627776) := comp_all
theorem leP_iff {a b d a' b' d' : Int} : LeP ⟨a, b, d⟩ ⟨a', b', d'⟩ ↔ a ≤ a' ∧ b ≤ b' ∧ d ≤ d' := comp_all
/-! sums over a tree -/
def sumBy (g : Item → Int) (l : List Item) : Int := (l.map g).sum
theorem sumBy_nil (g : Item → Int) : sumBy g [] = 0 := rfl
theorem sumBy_cons (g : Item → Int) (x : Item) (l : List Item) : sumBy g (x :: l) = g x + sumBy g l := by simp [sumBy]
theorem sumBy_append (g : Item → Int) (l m : List Item) : sumBy g (l ++ m) = sumBy g l + sumBy g m := by simp [sumBy]
theorem sumBy_congr {g h : Item → Int} : ∀ {l : List Item}, (∀ x ∈ l, g x = h x) → sumBy g l = sumBy h l
  | [], _ => rfl
  | x :: l, e => by rw [sumBy_cons, sumBy_cons, e x (by simp), sumBy_congr (fun y hy => e y (by simp [hy]))]
theorem sumBy_add (g h : Item → Int) : ∀ l : List Item, sumBy (fun x => g x + h x) l = sumBy g l + sumBy h l
  | [] => rfl
  | x :: l => by rw [sumBy_cons, sumBy_cons, sumBy_cons, sumBy_add g h l]; omega
theorem sumBy_map (g : Item → Int) (f : Item → Item) : ∀ l : List Item, sumBy g (l.map f) = sumBy (fun x => g (f x)) l
  | [] => rfl
  | x :: l => by rw [List.map_cons, sumBy_cons, sumBy_cons, sumBy_map g f l]
theorem sumBy_zero {g : Item → Int} : ∀ {l : List Item}, (∀ x ∈ l, g x = 0) → sumBy g l = 0
  | [], _ => rfl
  | x :: l, e => by rw [sumBy_cons, e x (by simp), sumBy_zero (fun y hy => e y (by simp [hy]))]; rfl
theorem sumBy_nonneg {g : Item → Int} : ∀ {l : List Item}, (∀ x ∈ l, 0 ≤ g x) → 0 ≤ sumBy g l
  | [], _ => by simp [sumBy_nil]
  | x :: l, e => by rw [sumBy_cons]; have := e x (by simp); have := sumBy_nonneg (l := l) (fun y hy => e y (by simp [hy])); omega
theorem sumBy_le {g : Item → Int} {B : Int} : ∀ {l : List Item}, (∀ x ∈ l, g x ≤ B) → sumBy g l ≤ B * l.length
  | [], _ => by simp [sumBy_nil]
  | x :: l, e => by
    rw [sumBy_cons]; have := e x (by simp); have := sumBy_le (l := l) (fun y hy => e y (by simp [hy]))
    simp only [List.length_cons, Int.natCast_succ, Int.mul_add, Int.mul_one]; omega
/-- one summand alone: names stand once -/
theorem sumBy_one {v : Int} {l : List Item} (hn : (l.map (·.f0)).Nodup) {x : Item} (hx : x ∈ l) : sumBy (fun y => if y.f0 = x.f0 then v else 0) l = v := by
  induction l with
  | nil => cases hx
  | cons y l ih =>
    rw [List.map_cons, List.nodup_cons] at hn
    rw [sumBy_cons]
    rcases List.mem_cons.1 hx with rfl | hx
    · rw [if_pos rfl, sumBy_zero (fun z hz => if_neg (fun e => hn.1 (by rw [← e]; exact List.mem_map_of_mem hz)))]; omega
    · rw [if_neg (fun e => hn.1 (by rw [e]; exact List.mem_map_of_mem hx)), ih hn.2 hx]; omega
/-- what the children have -/
def csum (c : Comp) (l : List Item) (n : ByteArray) : Int := sumBy (fun y => if y.f1 = n then c.of y.f4 else 0) l
/-! right trees -/
structure ItemOK (x : Item) : Prop where
  name : x.f0 ≠ ⟨#[]⟩
  size : x.f0.size ≤ 24
  lim : MayP x.f2
  own : MayP x.f3
  sub : MayP x.f4
  fit : LeP x.f4 x.f2
  ver : 1 ≤ x.f5 ∧ x.f5 ≤ 9007199254740992
structure RightP (l : List Item) : Prop where
  len : l.length ≤ 120
  ok : ∀ x ∈ l, ItemOK x
  sorted : l.Pairwise (fun x y => lt x.f0 y.f0 = true)
  par : ∀ x ∈ l, x.f1 = ⟨#[]⟩ ∨ ∃ y, look l x.f1 = some y
  sum : ∀ c : Comp, ∀ x ∈ l, c.of x.f4 = c.of x.f3 + csum c l x.f0
  chain : ∀ x ∈ l, ∃ us, Chain l x.f0 us
theorem sorted_nodup {l : List Item} (h : l.Pairwise (fun x y => lt x.f0 y.f0 = true)) : (l.map (·.f0)).Nodup := by
  rw [List.Nodup, List.pairwise_map]
  exact h.imp (fun hxy => lt_ne hxy)
theorem RightP.nodup {l : List Item} (h : RightP l) : (l.map (·.f0)).Nodup := sorted_nodup h.sorted
theorem look_of_mem {l : List Item} (hn : (l.map (·.f0)).Nodup) {x : Item} (hx : x ∈ l) : look l x.f0 = some x := by
  induction l with
  | nil => cases hx
  | cons y l ih =>
    rw [List.map_cons, List.nodup_cons] at hn
    unfold look
    rw [List.find?_cons]
    rcases List.mem_cons.1 hx with rfl | hx
    · simp
    · have : y.f0 ≠ x.f0 := fun e => hn.1 (by rw [e]; exact List.mem_map_of_mem hx)
      simp only [this, decide_false]
      exact ih hn.2 hx
theorem RightP.look {l : List Item} (h : RightP l) {x : Item} (hx : x ∈ l) : look l x.f0 = some x := look_of_mem h.nodup hx
theorem RightP.chainAll {l : List Item} (h : RightP l) (n : ByteArray) : Chain l n (up l n) := by
  cases hl : Print.look l n with
  | none => have c := Chain.nil hl; rw [c.up]; exact c
  | some x =>
    obtain ⟨hx, rfl⟩ := look_mem hl
    obtain ⟨us, c⟩ := h.chain x hx
    rw [c.up]; exact c
theorem right_nil : RightP [] := ⟨by simp, by simp, by simp, by simp, by simp, by simp⟩
/-- two that have one name are one -/
theorem RightP.eq_of {l : List Item} (h : RightP l) {x y : Item} (hx : x ∈ l) (hy : y ∈ l) (e : x.f0 = y.f0) : x = y := by
  have h1 := h.look hx
  rw [e, h.look hy] at h1
  exact (Option.some.inj h1).symm
end Go.Proofs.Ytcgefpklljclgaa.Print

namespace Go.Proofs.Ytcgefpklljclgaa.Print
open Go.RowKit Go.Proofs.YtcgefpklljclgaaW.PrintWords Go.Proofs.YtcgefpklljclgaaW.PrintLast
set_option linter.unusedVariables false
set_option linter.unusedSimpArgs false
/-! a tree whose items change, but neither their names nor parents -/
theorem look_map {f : Item → Item} (hf : ∀ x, (f x).f0 = x.f0) (l : List Item) (n : ByteArray) : look (l.map f) n = (look l n).map f := by
  unfold look
  rw [List.find?_map]
  congr 2
  funext x
  simp [hf]
theorem Chain.map {f : Item → Item} (hf : ∀ x, (f x).f0 = x.f0) (hp : ∀ x, (f x).f1 = x.f1) {l : List Item} {n : ByteArray} {us : List ByteArray} (h : Chain l n us) : Chain (l.map f) n us := by
  induction h with
  | nil h => exact .nil (by rw [look_map hf, h]; rfl)
  | @cons n x us h k ih => exact .cons (x := f x) (by rw [look_map hf, h]; rfl) (by rw [hp]; exact ih)
theorem up_self {l : List Item} {n : ByteArray} {x : Item} (h : look l n = some x) : n ∈ up l n := by
  unfold up
  rw [upGo_some h]
  simp
/-- which of a node's children stand on a way up -/
theorem chain_kids {l : List Item} (hl : RightP l) {n : ByteArray} {us : List ByteArray} (h : Chain l n us) (v : Int) {x : Item} (hx : x ∈ l) :
    sumBy (fun y => if y.f1 = x.f0 ∧ y.f0 ∈ us then v else 0) l = if x.f0 ∈ us ∧ x.f0 ≠ n then v else 0 := by
  induction h with
  | nil _ => rw [sumBy_zero (fun y _ => by simp)]; simp
  | @cons n z us h k ih =>
    obtain ⟨hz, rfl⟩ := look_mem h
    have hnd := (Chain.cons h k).nodup
    rw [List.nodup_cons] at hnd
    have e : sumBy (fun y => if y.f1 = x.f0 ∧ y.f0 ∈ z.f0 :: us then v else 0) l = sumBy (fun y => (if y.f0 = z.f0 then (if z.f1 = x.f0 then v else 0) else 0) + (if y.f1 = x.f0 ∧ y.f0 ∈ us then v else 0)) l := by
      refine sumBy_congr fun y hy => ?_
      by_cases e1 : y.f0 = z.f0
      · have := hl.eq_of hy hz e1
        subst this
        by_cases e2 : y.f1 = x.f0 <;> simp [e2, hnd.1]
      · simp [e1]
    rw [e, sumBy_add, ih, sumBy_one hl.nodup hz]
    by_cases e2 : z.f1 = x.f0
    · have hm : x.f0 ∈ us := by
        rw [e2] at k
        cases k with
        | nil k => rw [hl.look hx] at k; cases k
        | cons _ _ => simp
      have hne : x.f0 ≠ z.f0 := fun q => hnd.1 (by rw [← q]; exact hm)
      simp [e2, hm, hne]
    · by_cases e3 : x.f0 = z.f0
      · simp [e2, e3, hnd.1]
        exact fun q => absurd (q.trans e3.symm) e2
      · have e4 : x.f0 ≠ z.f1 := fun q => e2 q.symm
        simp [e2, e3, e4]
/-! letting in (and out) -/
def admF (us : List ByteArray) (n : ByteArray) (v : Vec) (x : Item) : Item := ⟨x.f0, x.f1, x.f2, if x.f0 = n then vadd x.f3 v else x.f3, if x.f0 ∈ us then vadd x.f4 v else x.f4, x.f5⟩
def admL (l : List Item) (n : ByteArray) (v : Vec) : List Item := l.map (admF (up l n) n v)
theorem csum_adm {l : List Item} (hl : RightP l) (c : Comp) (n : ByteArray) (v : Vec) {x : Item} (hx : x ∈ l) :
    csum c (admL l n v) x.f0 = csum c l x.f0 + if x.f0 ∈ up l n ∧ x.f0 ≠ n then c.of v else 0 := by
  unfold csum admL
  rw [sumBy_map, ← chain_kids hl (hl.chainAll n) (c.of v) hx, ← sumBy_add]
  refine sumBy_congr fun y hy => ?_
  simp only [admF]
  by_cases e1 : y.f1 = x.f0 <;> by_cases e2 : y.f0 ∈ up l n <;> simp [e1, e2, of_vadd]
/-- what keeps a tree right when something is let in or out along a way -/
theorem adm_right {l : List Item} (hl : RightP l) {n : ByteArray} (v : Vec) (hin : ∃ x, look l n = some x)
    (hown : ∀ x ∈ l, x.f0 = n → MayP (vadd x.f3 v)) (hsub : ∀ x ∈ l, x.f0 ∈ up l n → MayP (vadd x.f4 v)) (hfit : ∀ x ∈ l, x.f0 ∈ up l n → LeP (vadd x.f4 v) x.f2) : RightP (admL l n v) where
  len := by unfold admL; rw [List.length_map]; exact hl.len
  ok := by
    intro y hy
    obtain ⟨x, hx, rfl⟩ := List.mem_map.1 hy
    have k := hl.ok x hx
    refine ⟨k.name, k.size, k.lim, ?_, ?_, ?_, k.ver⟩
    · show MayP (if x.f0 = n then vadd x.f3 v else x.f3)
      split
      · exact hown x hx (by assumption)
      · exact k.own
    · show MayP (if x.f0 ∈ up l n then vadd x.f4 v else x.f4)
      split
      · exact hsub x hx (by assumption)
      · exact k.sub
    · show LeP (if x.f0 ∈ up l n then vadd x.f4 v else x.f4) x.f2
      split
      · exact hfit x hx (by assumption)
      · exact k.fit
  sorted := by
    unfold admL
    rw [List.pairwise_map]
    exact hl.sorted
  par := by
    intro y hy
    obtain ⟨x, hx, rfl⟩ := List.mem_map.1 hy
    rcases hl.par x hx with h | ⟨z, h⟩
    · exact .inl h
    · exact .inr ⟨_, by unfold admL; rw [look_map (f := admF (up l n) n v) (fun _ => rfl)]; show (look l x.f1).map _ = _; rw [h]; rfl⟩
  sum := by
    intro c y hy
    obtain ⟨x, hx, rfl⟩ := List.mem_map.1 hy
    show c.of (if x.f0 ∈ up l n then vadd x.f4 v else x.f4) = c.of (if x.f0 = n then vadd x.f3 v else x.f3) + csum c (admL l n v) x.f0
    rw [csum_adm hl c n v hx]
    have hs := hl.sum c x hx
    by_cases e : x.f0 = n
    · have hm : x.f0 ∈ up l n := by
        obtain ⟨z, hz⟩ := hin
        rw [e]; exact up_self hz
      simp [e] at hm ⊢
      rw [if_pos hm, of_vadd, of_vadd, hs, e]; omega
    · by_cases hm : x.f0 ∈ up l n
      · simp [e, hm, of_vadd]; omega
      · simp [e, hm]; omega
  chain := by
    intro y hy
    obtain ⟨x, hx, rfl⟩ := List.mem_map.1 hy
    obtain ⟨us, h⟩ := hl.chain x hx
    exact ⟨us, h.map (f := admF (up l n) n v) (fun _ => rfl) (fun _ => rfl)⟩
/-! a new node -/
def insL (l : List Item) (it : Item) : List Item := l.takeWhile (fun x => lt x.f0 it.f0) ++ it :: l.dropWhile (fun x => lt x.f0 it.f0)
theorem look_ins (a b : List Item) (it : Item) (n : ByteArray) (h : look (a ++ b) it.f0 = none) : look (a ++ it :: b) n = if n = it.f0 then some it else look (a ++ b) n := by
  unfold look at h ⊢
  rw [List.find?_append] at h ⊢
  rw [List.find?_append, List.find?_cons]
  by_cases e : it.f0 = n
  · subst e
    cases ha : a.find? (fun x => decide (x.f0 = it.f0)) with
    | some y => rw [ha] at h; simp at h
    | none => simp
  · have e' : n ≠ it.f0 := fun q => e q.symm
    simp [e, e']
theorem insL_eq (l : List Item) (it : Item) : ∃ a b, l = a ++ b ∧ insL l it = a ++ it :: b ∧ (∀ x ∈ a, lt x.f0 it.f0 = true) ∧ (∀ x t, b = x :: t → lt x.f0 it.f0 = false) := by
  refine ⟨l.takeWhile (fun x => lt x.f0 it.f0), l.dropWhile (fun x => lt x.f0 it.f0), (List.takeWhile_append_dropWhile).symm, rfl, fun x hx => ?_, fun x t e => ?_⟩
  · exact List.all_eq_true.1 (List.all_takeWhile (p := fun x : Item => lt x.f0 it.f0) (l := l)) x hx
  · have := List.head?_dropWhile_not (fun x : Item => lt x.f0 it.f0) l
    rw [e] at this
    simpa using this
theorem csum_ins (c : Comp) (a b : List Item) (it : Item) (n : ByteArray) : csum c (a ++ it :: b) n = csum c (a ++ b) n + if it.f1 = n then c.of it.f4 else 0 := by
  unfold csum
  rw [sumBy_append, sumBy_append, sumBy_cons]; omega
theorem ins_right {l : List Item} (hl : RightP l) {it : Item} (hi : ItemOK it) (h0 : ∀ c : Comp, c.of it.f3 = 0 ∧ c.of it.f4 = 0) (hn : look l it.f0 = none)
    (hp : it.f1 = ⟨#[]⟩ ∨ ∃ y, look l it.f1 = some y) (hlen : l.length < 120) : RightP (insL l it) := by
  obtain ⟨a, b, e, e', ha, hb⟩ := insL_eq l it
  rw [e']
  subst e
  have hlk := fun n => look_ins a b it n hn
  have hmem : ∀ x, x ∈ a ++ it :: b ↔ x = it ∨ x ∈ a ++ b := fun x => by simp; constructor <;> (intro h; rcases h with h | h | h <;> simp [h])
  have hnew : ∀ m y, look (a ++ b) m = some y → m ≠ it.f0 := fun m y h q => by rw [q, hn] at h; cases h
  have hne : it.f0 ≠ ⟨#[]⟩ := hi.name
  have hpar : ∀ x ∈ a ++ b, x.f1 ≠ it.f0 := fun x hx q => by
    rcases hl.par x hx with h | ⟨y, h⟩
    · exact hne (q.symm.trans h)
    · exact hnew _ _ h q
  have hch : ∀ {n us}, Chain (a ++ b) n us → n ≠ it.f0 → Chain (a ++ it :: b) n us := by
    intro n us h
    induction h with
    | nil h => intro q; exact .nil (by rw [hlk, if_neg q]; exact h)
    | @cons n x us h k ih =>
      intro q
      exact .cons (x := x) (by rw [hlk, if_neg q]; exact h) (ih (hpar x (look_mem h).1))
  have hip : it.f1 ≠ it.f0 := by
    rcases hp with h | ⟨y, h⟩
    · rw [h]; exact fun q => hne q.symm
    · exact hnew _ _ h
  refine ⟨?_, ?_, ?_, ?_, ?_, ?_⟩
  · simp at hlen ⊢; omega
  · intro x hx
    rcases (hmem x).1 hx with rfl | hx
    · exact hi
    · exact hl.ok x hx
  · have hs := hl.sorted
    rw [List.pairwise_append] at hs ⊢
    obtain ⟨h1, h2, h3⟩ := hs
    have hbx : ∀ y ∈ b, lt it.f0 y.f0 = true := by
      intro y hy
      cases b with
      | nil => cases hy
      | cons x t =>
        have hx : lt it.f0 x.f0 = true := lt_total (hb x t rfl) (fun q => look_none.1 hn x (by simp) q)
        rcases List.mem_cons.1 hy with rfl | hy
        · exact hx
        · exact lt_trans hx ((List.pairwise_cons.1 h2).1 y hy)
    refine ⟨h1, List.pairwise_cons.2 ⟨hbx, h2⟩, fun x hx y hy => ?_⟩
    rcases List.mem_cons.1 hy with rfl | hy
    · exact ha x hx
    · exact h3 x hx y hy
  · intro x hx
    rcases (hmem x).1 hx with rfl | hx
    · rcases hp with h | ⟨y, h⟩
      · exact .inl h
      · exact .inr ⟨y, by rw [hlk, if_neg hip]; exact h⟩
    · rcases hl.par x hx with h | ⟨y, h⟩
      · exact .inl h
      · exact .inr ⟨y, by rw [hlk, if_neg (hpar x hx)]; exact h⟩
  · intro c x hx
    rw [csum_ins, (h0 c).2, ite_self, Int.add_zero]
    rcases (hmem x).1 hx with rfl | hx
    · rw [(h0 c).1, (h0 c).2]
      unfold csum
      rw [sumBy_zero (fun y hy => if_neg (hpar y hy))]; rfl
    · exact hl.sum c x hx
  · intro x hx
    rcases (hmem x).1 hx with rfl | hx
    · have := hch (hl.chainAll x.f1) hip
      exact ⟨_, .cons (x := x) (by rw [hlk, if_pos rfl]) this⟩
    · obtain ⟨us, h⟩ := hl.chain x hx
      exact ⟨us, hch h (fun q => look_none.1 hn x hx q)⟩
end Go.Proofs.Ytcgefpklljclgaa.Print

namespace Go.Proofs.Ytcgefpklljclgaa.Print
open Go.RowKit Go.Proofs.YtcgefpklljclgaaW.PrintWords Go.Proofs.YtcgefpklljclgaaW.PrintLast
set_option linter.unusedVariables false
set_option linter.unusedSimpArgs false
theorem ite_iff {α : Type} {p q : Prop} [Decidable p] [Decidable q] (h : p ↔ q) {a b : α} : (if p then a else b) = if q then a else b := by
  by_cases hp : p
  · rw [if_pos hp, if_pos (h.1 hp)]
  · rw [if_neg hp, if_neg (fun k => hp (h.2 k))]
/-! the document's small functions -/
theorem r10_Le_eq (a b d a' b' d' : Int) : r10_Le.f a b d a' b' d' = some (decide (LeP ⟨a, b, d⟩ ⟨a', b', d'⟩)) := by
  unfold r10_Le.f
  by_cases h0 : a ≤ a' <;> by_cases h1 : b ≤ b' <;> simp [h0, h1, leP_iff]
theorem r10_unit_eq (a : Int) : r10_unit.f a = some (decide (0 ≤ a ∧ a ≤ 1099511627776)) := by
  unfold r10_unit.f
  by_cases h0 : 0 ≤ a
  · rw [if_pos (by omega)]; simp [h0]
  · rw [if_neg (by omega)]; simp [h0]
theorem r10_MayVec_eq (a b d : Int) : r10_MayVec.f a b d = some (decide (MayP ⟨a, b, d⟩)) := by
  unfold r10_MayVec.f
  simp only [r10_unit_eq, Option.bind_some]
  by_cases h0 : 0 ≤ a ∧ a ≤ 1099511627776 <;> by_cases h1 : 0 ≤ b ∧ b ≤ 1099511627776 <;> simp [h0, h1, mayP_iff]
theorem r10_MayName_eq (n : ByteArray) : r10_MayName.f n = some (decide (n ≠ ⟨#[]⟩ ∧ n.size ≤ 24)) := by
  unfold r10_MayName.f
  by_cases h : n = ⟨#[]⟩
  · rw [if_pos (nm_empty.2 h)]; simp [h]
  · rw [if_neg (fun q => h (nm_empty.1 q))]; simp [h]; omega
theorem r10_copied_eq (l : List Item) (h : l.length < 1000000) : r10_copied.f l = some l := by
  unfold r10_copied.f
  simp only [Option.bind_some, List.length_nil, List.nil_append]
  rw [if_pos (by omega)]
theorem r10_Find_l0 (l : List Item) (n : ByteArray) (hl : l.length < 1000000) : ∀ (d i : Nat), l.length - i = d → i ≤ l.length →
    Ev (fun k => r10_Find.l0 k l n i) (fidx (fun x : Item => x.f0.toList == n.toList) (l.drop i) i)
  | 0, i, hd, hi => by
    obtain rfl : i = l.length := by omega
    refine Ev.step (f := fun _ => some (-1)) (fun k => ?_) (by rw [List.drop_length]; exact Ev.now _)
    simp only [r10_Find.l0]
    rw [if_neg (by omega)]
  | d + 1, i, hd, hi => by
    have hlt : i < l.length := by omega
    rw [fidx_drop _ zItem l i hlt]
    have hrd : rd_T31 l (i : Int) = l.getD i zItem := by rw [rd_item, Int.toNat_natCast]
    by_cases e : (l.getD i zItem).f0.toList = n.toList
    · rw [if_pos (beq_iff_eq.2 e)]
      refine Ev.step (f := fun _ => some (i : Int)) (fun k => ?_) (Ev.now _)
      simp only [r10_Find.l0]
      rw [if_pos (by omega), if_pos (by omega), hrd, if_pos e]
    · rw [if_neg (fun q => e (beq_iff_eq.1 q))]
      refine Ev.step (f := fun k => r10_Find.l0 k l n ((i + 1 : Nat) : Int)) (fun k => ?_) (r10_Find_l0 l n hl d (i + 1) (by omega) (by omega))
      simp only [r10_Find.l0]
      rw [if_pos (by omega), if_pos (by omega), hrd, if_neg e, w64 (by omega) (by omega)]
      rfl
theorem r10_Find_ev (l : List Item) (n : ByteArray) (hl : l.length < 1000000) : Ev (fun k => r10_Find.f k l n) (fnd l n) := r10_Find_l0 l n hl _ 0 rfl (by omega)
theorem r10_Up_l0 (l : List Item) (hl : l.length < 1000000) : ∀ (m : Nat) (n : ByteArray) (out : List ByteArray), out.length + m = l.length + 1 →
    Ev (fun k => r10_Up.l0 k l out (fnd l n)) (out ++ upGo l m n)
  | 0, n, out, hm => by
    rw [upGo.eq_1, List.append_nil]
    refine Ev.step (f := fun _ => some out) (fun k => ?_) (Ev.now _)
    simp only [r10_Up.l0]
    by_cases h : 0 ≤ fnd l n
    · rw [if_pos h, if_neg (by omega)]
    · rw [if_neg h]
  | m + 1, n, out, hm => by
    cases h : look l n with
    | none =>
      rw [upGo_none h, List.append_nil]
      refine Ev.step (f := fun _ => some out) (fun k => ?_) (Ev.now _)
      simp only [r10_Up.l0]
      rw [fnd_none h, if_neg (by omega)]
    | some x =>
      rw [upGo_some h]
      have h0 := fnd_ge.2 ⟨x, h⟩
      have h1 := fnd_lt l n
      obtain ⟨hx, hn⟩ := look_mem h
      refine Ev.step (f := fun k => (r10_Find.f k l x.f1).bind fun t => r10_Up.l0 k l (out ++ [n]) t) (fun k => ?_) (Ev.bind (r10_Find_ev l x.f1 hl) ?_)
      · simp only [r10_Up.l0]
        rw [if_pos h0, if_pos (by omega), if_pos h0, if_pos h1, if_pos (by omega), fnd_rd h, hn]
      · have := r10_Up_l0 l hl m x.f1 (out ++ [n]) (by simp; omega)
        simpa using this
theorem r10_Up_ev (l : List Item) (n : ByteArray) (hl : l.length < 1000000) : Ev (fun k => r10_Up.f k l n) (up l n) :=
  Ev.bind (r10_Find_ev l n hl) (by have := r10_Up_l0 l hl (l.length + 1) n [] (by simp); rw [List.nil_append] at this; exact this)
/-! a store at a name's place -/
theorem set_at {l : List Item} (hn : (l.map (·.f0)).Nodup) {n : ByteArray} {x : Item} (h : look l n = some x) (y : Item) :
    l.set (fnd l n).toNat y = l.map (fun z => if z.f0 = n then y else z) := by
  obtain ⟨j, h1, h2, h3, h4, h5⟩ := fnd_some h
  rw [h2, Int.toNat_natCast]
  have hx : l[j] = x := by rw [← h3]; simp [h1]
  apply List.ext_getElem (by simp)
  intro m hm hm'
  simp only [List.length_set] at hm
  rw [List.getElem_set, List.getElem_map]
  by_cases e : j = m
  · subst e
    rw [if_pos rfl, if_pos (by rw [hx]; exact h4)]
  · rw [if_neg e, if_neg]
    intro q
    have h6 : (l.map (·.f0))[j]'(by simpa using h1) = (l.map (·.f0))[m]'(by simpa using hm) := by simp [hx, h4, q]
    exact e ((List.getElem_inj hn).1 h6)
theorem fnd_map {f : Item → Item} (hf : ∀ x, (f x).f0 = x.f0) (l : List Item) (n : ByteArray) : fnd (l.map f) n = fnd l n := by
  have : ∀ (l : List Item) (i : Int), fidx (fun x : Item => x.f0.toList == n.toList) (l.map f) i = fidx (fun x : Item => x.f0.toList == n.toList) l i := by
    intro l
    induction l with
    | nil => intro i; rfl
    | cons x l ih => intro i; simp only [List.map_cons, fidx, hf, ih]
  exact this l 0
/-! letting in, as the document says -/
def admS (us : List ByteArray) (v : Vec) (x : Item) : Item := ⟨x.f0, x.f1, x.f2, x.f3, if x.f0 ∈ us then vadd x.f4 v else x.f4, x.f5⟩
def admR (l : List Item) (n : ByteArray) (v : Vec) : List Item × Int :=
  if ¬ MayP v then ([], 1) else if (look l n).isNone = true then ([], 2) else if ∀ x ∈ l, x.f0 ∈ up l n → LeP (vadd x.f4 v) x.f2 then (admL l n v, 0) else ([], 12)
theorem vadd_wrap {a b : Vec} (ha : MayP a) (hb : MayP b) : (wrap64 (a.f0 + b.f0), wrap64 (a.f1 + b.f1), wrap64 (a.f2 + b.f2)) = ((vadd a b).f0, (vadd a b).f1, (vadd a b).f2) := by
  have a0 := ha .cpu; have a1 := ha .mem; have a2 := ha .pods
  have b0 := hb .cpu; have b1 := hb .mem; have b2 := hb .pods
  simp only [Comp.of] at a0 a1 a2 b0 b1 b2
  rw [w64 (by omega) (by omega), w64 (by omega) (by omega), w64 (by omega) (by omega)]
  rfl
theorem r10_Add_eq {a b : Vec} (ha : MayP a) (hb : MayP b) : r10_Add.f a.f0 a.f1 a.f2 b.f0 b.f1 b.f2 = some ((vadd a b).f0, (vadd a b).f1, (vadd a b).f2) := by
  unfold r10_Add.f; rw [vadd_wrap ha hb]
theorem look_admS (us : List ByteArray) (v : Vec) (l : List Item) (n : ByteArray) : look (l.map (admS us v)) n = (look l n).map (admS us v) := look_map (f := admS us v) (fun _ => rfl) l n
theorem drop_cons {us : List ByteArray} {i : Nat} (h : i < us.length) : us.drop i = rdOf ByteArray.empty us i :: us.drop (i + 1) := by
  rw [List.drop_eq_getElem_cons h]; simp [rdOf, h]
theorem take_snoc_ {us : List ByteArray} {i : Nat} (h : i < us.length) : us.take (i + 1) = us.take i ++ [rdOf ByteArray.empty us i] := by
  rw [List.take_succ_eq_append_getElem h]; simp [rdOf, h]
theorem fnd_admS (us : List ByteArray) (v : Vec) (l : List Item) (n : ByteArray) : fnd (l.map (admS us v)) n = fnd l n := fnd_map (f := admS us v) (fun _ => rfl) l n
theorem nodup_admS {us : List ByteArray} {v : Vec} {l : List Item} (h : (l.map (·.f0)).Nodup) : ((l.map (admS us v)).map (·.f0)).Nodup := by
  rw [List.map_map]; exact h
theorem r10_Admit_l0 {l : List Item} (hl : RightP l) (n : ByteArray) {v : Vec} (hv : MayP v) (hin : ∃ x, look l n = some x) : ∀ (d i : Nat), (up l n).length - i = d → i ≤ (up l n).length →
    Ev (fun k => r10_Admit.l0 k n (up l n) (l.map (admS ((up l n).take i) v)) i v.f0 v.f1 v.f2) (if ∀ x ∈ l, x.f0 ∈ (up l n).drop i → LeP (vadd x.f4 v) x.f2 then (admL l n v, 0) else ([], 12))
  | 0, i, hd, hi => by
    obtain rfl : i = (up l n).length := by omega
    rw [List.drop_length, List.take_length, if_pos (by simp)]
    obtain ⟨x, hx⟩ := hin
    obtain ⟨hm, hxn⟩ := look_mem hx
    have hlk : look (l.map (admS (up l n) v)) n = some (admS (up l n) v x) := by rw [look_admS, hx]; rfl
    have h0 : 0 ≤ fnd l n := fnd_ge.2 ⟨x, hx⟩
    have h1 : fnd l n < l.length := fnd_lt l n
    obtain ⟨K, hK⟩ := r10_Find_ev (l.map (admS (up l n) v)) n (by rw [List.length_map]; have := hl.len; omega)
    dsimp only at hK
    refine ⟨K + 1, fun k hk => ?_⟩
    obtain ⟨k, rfl⟩ : ∃ m, k = m + 1 := ⟨k - 1, by omega⟩
    have hrd := fnd_rd hlk
    rw [fnd_admS] at hrd
    simp only [r10_Admit.l0]
    rw [if_neg (by omega), hK k (by omega), fnd_admS]
    simp only [Option.bind_some]
    rw [if_pos h0, if_pos (by rw [List.length_map]; omega), hrd, r10_Add_eq (a := (admS (up l n) v x).f3) (hl.ok x hm).own hv]
    simp only [Option.bind_some]
    have hset := set_at (nodup_admS (us := up l n) (v := v) hl.nodup) hlk
    rw [fnd_admS] at hset
    rw [hset, List.map_map]
    congr 2
    unfold admL
    refine List.map_congr_left fun z hz => ?_
    simp only [Function.comp, admF]
    by_cases e : z.f0 = n
    · obtain rfl : z = x := hl.eq_of hz hm (e.trans hxn.symm)
      rw [if_pos (by exact e), if_pos e]
      rfl
    · rw [if_neg (by exact e), if_neg e]
      rfl
  | d + 1, i, hd, hi => by
    have hlt : i < (up l n).length := by omega
    have hc := hl.chainAll n
    have hnd := hc.nodup
    rw [drop_cons hlt]
    have hu : rdOf ByteArray.empty (up l n) i ∈ up l n := by simp [rdOf, hlt]
    obtain ⟨x, hx⟩ := hc.mem_look hu
    obtain ⟨hm, hxn⟩ := look_mem hx
    have hnot : x.f0 ∉ (up l n).take i := by
      rw [hxn]
      rw [← List.take_append_drop i (up l n), drop_cons hlt, List.nodup_append] at hnd
      exact fun q => hnd.2.2 _ q _ (by simp) rfl
    generalize hU : rdOf ByteArray.empty (up l n) i = u at *
    have hlk : look (l.map (admS ((up l n).take i) v)) u = some (admS ((up l n).take i) v x) := by rw [look_admS, hx]; rfl
    have hsame : admS ((up l n).take i) v x = x := by unfold admS; rw [if_neg hnot]
    rw [hsame] at hlk
    have h0 : 0 ≤ fnd l u := fnd_ge.2 ⟨x, hx⟩
    have h1 : fnd l u < l.length := fnd_lt l u
    have hrd := fnd_rd hlk
    have hset := set_at (nodup_admS (us := (up l n).take i) (v := v) hl.nodup) hlk
    rw [fnd_admS] at hrd
    rw [fnd_admS] at hset
    obtain ⟨K, hK⟩ := r10_Find_ev (l.map (admS ((up l n).take i) v)) u (by rw [List.length_map]; have := hl.len; omega)
    obtain ⟨K', hK'⟩ := r10_Admit_l0 hl n hv hin d (i + 1) (by omega) (by omega)
    dsimp only at hK hK'
    refine ⟨K + K' + 1, fun k hk => ?_⟩
    obtain ⟨k, rfl⟩ : ∃ m, k = m + 1 := ⟨k - 1, by omega⟩
    have hup : (up l n).length ≤ l.length := hc.len
    have hlen := hl.len
    simp only [r10_Admit.l0]
    rw [if_pos (by omega), if_pos (by omega), hU, hK k (by omega), fnd_admS]
    simp only [Option.bind_some]
    rw [if_pos h0, if_pos (by rw [List.length_map]; omega), hrd, r10_Add_eq (a := x.f4) (hl.ok x hm).sub hv]
    simp only [Option.bind_some]
    rw [hset, List.map_map]
    have hnew : (l.map ((fun z : Item => if z.f0 = u then (⟨x.f0, x.f1, ⟨x.f2.f0, x.f2.f1, x.f2.f2⟩, ⟨x.f3.f0, x.f3.f1, x.f3.f2⟩, ⟨(vadd x.f4 v).f0, (vadd x.f4 v).f1, (vadd x.f4 v).f2⟩, x.f5⟩ : Item) else z) ∘ admS ((up l n).take i) v)) = l.map (admS ((up l n).take (i + 1)) v) := by
      refine List.map_congr_left fun z hz => ?_
      simp only [Function.comp]
      rw [take_snoc_ hlt, hU]
      by_cases e : z.f0 = u
      · obtain rfl : z = x := hl.eq_of hz hm (e.trans hxn.symm)
        rw [if_pos (by exact e)]
        unfold admS
        rw [if_pos (by simp [e])]
      · rw [if_neg (by exact e)]
        unfold admS
        simp [e]
    rw [hnew]
    have hlk2 : look (l.map (admS ((up l n).take (i + 1)) v)) u = some (admS ((up l n).take (i + 1)) v x) := by rw [look_admS, hx]; rfl
    have hrd2 := fnd_rd hlk2
    rw [fnd_admS] at hrd2
    have hx2 : admS ((up l n).take (i + 1)) v x = ⟨x.f0, x.f1, x.f2, x.f3, vadd x.f4 v, x.f5⟩ := by unfold admS; rw [if_pos (by rw [take_snoc_ hlt, hU, hxn]; simp)]
    rw [hrd2, hx2, r10_Le_eq]
    simp only [Option.bind_some]
    by_cases hfit : LeP (vadd x.f4 v) x.f2
    · rw [if_pos (by exact decide_eq_true hfit), w64 (by omega) (by omega)]
      have h2 := hK' k (by omega)
      rw [show ((i : Int) + 1) = ((i + 1 : Nat) : Int) from by omega, h2]
      congr 1
      refine ite_iff ⟨fun q z hz hzm => ?_, fun q z hz hzm => q z hz (by simp [hzm])⟩
      rcases List.mem_cons.1 hzm with e | hzm
      · obtain rfl : z = x := hl.eq_of hz hm (e.trans hxn.symm)
        exact hfit
      · exact q z hz hzm
    · rw [if_neg (by simpa using hfit), if_neg (fun q => hfit (q x hm (by rw [hxn]; simp)))]
      rfl
theorem r10_Admit_ev {l : List Item} (hl : RightP l) (n : ByteArray) (v : Vec) : Ev (fun k => r10_Admit.f k l n v.f0 v.f1 v.f2) (admR l n v) := by
  have hlen := hl.len
  refine Ev.bind (r10_Up_ev l n (by omega)) ?_
  have hmv : r10_MayVec.f v.f0 v.f1 v.f2 = some (decide (MayP v)) := r10_MayVec_eq _ _ _
  unfold admR
  by_cases hv : MayP v
  · rw [if_neg (by simpa using hv)]
    cases hx : look l n with
    | none =>
      rw [if_pos (show (none : Option Item).isNone = true from rfl)]
      refine Ev.congr (fun k => ?_) (Ev.now _)
      rw [hmv]
      simp only [Option.bind_some]
      rw [if_pos (by exact decide_eq_true hv), show up l n = [] from upGo_none hx _]
      rfl
    | some x =>
      rw [if_neg (by simp)]
      have h := r10_Admit_l0 hl n hv ⟨x, hx⟩ _ 0 rfl (by omega)
      rw [List.take_zero, List.drop_zero, show l.map (admS [] v) = l from by rw [show admS [] v = id from by funext z; simp [admS]]; simp] at h
      refine Ev.congr (fun k => ?_) h
      rw [hmv]
      simp only [Option.bind_some]
      have : (up l n).length ≠ 0 := by have := up_self hx; intro q; rw [List.length_eq_zero_iff.1 q] at this; cases this
      rw [if_pos (by exact decide_eq_true hv), if_neg (by omega), r10_copied_eq l (by omega)]
      rfl
  · rw [if_pos hv]
    refine Ev.congr (fun k => ?_) (Ev.now _)
    rw [hmv]
    simp only [Option.bind_some]
    rw [if_neg (by simpa using hv)]
    rfl
/-! a new node, as the document says -/
def zVec : Vec := ⟨0, 0, 0⟩
def newItem (n p : ByteArray) (v : Vec) : Item := ⟨n, p, v, zVec, zVec, 1⟩
def creR (l : List Item) (n p : ByteArray) (v : Vec) : List Item × Int :=
  if ¬ ((n ≠ ⟨#[]⟩ ∧ n.size ≤ 24) ∧ MayP v) then ([], 1) else if (look l n).isSome = true then ([], 3) else if p ≠ ⟨#[]⟩ ∧ (look l p).isNone = true then ([], 2) else if 120 ≤ l.length then ([], 4) else (insL l (newItem n p v), 0)
theorem insL_cons (x : Item) (l : List Item) (it : Item) : insL (x :: l) it = if lt x.f0 it.f0 = true then x :: insL l it else it :: x :: l := by
  unfold insL
  rw [List.takeWhile_cons, List.dropWhile_cons]
  cases lt x.f0 it.f0 <;> simp
theorem r10_Create_l0 (n p : ByteArray) (v : Vec) (b : List Item) : ∀ (a l : List Item), l = a ++ b → l.length < 1000000 → Ev (fun k => r10_Create.l0 k l n p a.length v.f0 v.f1 v.f2) (a ++ insL b (newItem n p v), 0) := by
  induction b with
  | nil =>
    rintro a l rfl hl
    simp only [List.append_nil] at hl ⊢
    refine Ev.step (f := fun _ => some (a ++ [newItem n p v], 0)) (fun k => ?_) (Ev.now _)
    simp only [r10_Create.l0]
    rw [if_neg (by omega), if_pos (by omega), if_pos (by omega), Int.toNat_natCast, List.take_length, r10_copied_eq a (by omega)]
    simp only [Option.bind_some, List.drop_length, List.length_append, List.length_cons, List.length_nil]
    rw [if_pos (by omega), if_pos (by omega), List.append_nil]
    rfl
  | cons x b ih =>
    rintro a l rfl hl
    have hlen : (a ++ x :: b).length = a.length + b.length + 1 := by simp; omega
    have hrd : rd_T31 (a ++ x :: b) (a.length : Int) = x := by rw [rd_item, Int.toNat_natCast]; simp
    rw [insL_cons]
    by_cases e : lt x.f0 n = true
    · rw [if_pos (by exact e)]
      have h := ih (a ++ [x]) (a ++ x :: b) (by simp) hl
      refine Ev.step (f := fun k => r10_Create.l0 k (a ++ x :: b) n p (a ++ [x]).length v.f0 v.f1 v.f2) (fun k => ?_) (by simpa using h)
      simp only [r10_Create.l0]
      rw [if_pos (by omega), if_pos (by omega), hrd, if_pos (by exact e), w64 (by omega) (by omega)]
      simp
    · rw [if_neg (by exact e)]
      refine Ev.step (f := fun _ => some (a ++ newItem n p v :: x :: b, 0)) (fun k => ?_) (Ev.now _)
      simp only [r10_Create.l0]
      rw [if_pos (by omega), if_pos (by omega), hrd, if_neg (by exact e), if_pos (by omega), Int.toNat_natCast, List.take_left, r10_copied_eq a (by omega)]
      simp only [Option.bind_some, List.drop_left, List.length_append, List.length_cons, List.length_nil]
      rw [if_pos (by omega), if_pos (by omega)]
      simp
      rfl
theorem r10_Create_ev {l : List Item} (hl : l.length < 1000000) (n p : ByteArray) (v : Vec) : Ev (fun k => r10_Create.f k l n p v.f0 v.f1 v.f2) (creR l n p v) := by
  have hmv : r10_MayVec.f v.f0 v.f1 v.f2 = some (decide (MayP v)) := r10_MayVec_eq _ _ _
  have hno : ∀ e : Int, ((r10_no.f e).bind fun bt => some (bt.1, bt.2)) = some (([] : List Item), e) := fun _ => rfl
  have hj1 : ∀ b, Ev (fun k => r10_Create.j1 k l n p b v.f0 v.f1 v.f2) (if b = true then ([], 2) else if 120 ≤ l.length then ([], 4) else (insL l (newItem n p v), 0)) := by
    intro b
    cases b with
    | true =>
      refine Ev.step (f := fun _ => some ([], 2)) (fun k => ?_) (Ev.now _)
      simp only [r10_Create.j1, if_true]
      exact hno 2
    | false =>
      simp only [Bool.false_eq_true, if_false]
      by_cases h : 120 ≤ l.length
      · rw [if_pos h]
        refine Ev.step (f := fun _ => some ([], 4)) (fun k => ?_) (Ev.now _)
        simp only [r10_Create.j1, Bool.false_eq_true, if_false]
        rw [if_pos (by omega)]; exact hno 4
      · rw [if_neg h]
        refine Ev.step (f := fun k => r10_Create.l0 k l n p 0 v.f0 v.f1 v.f2) (fun k => ?_) (by have := r10_Create_l0 n p v l [] l rfl hl; simpa using this)
        simp only [r10_Create.j1, Bool.false_eq_true, if_false]
        rw [if_neg (by omega)]
  have hj0 : ∀ b, Ev (fun k => r10_Create.j0 k l n p b v.f0 v.f1 v.f2) (if b = true then ([], 1) else if (look l n).isSome = true then ([], 3) else if p ≠ ⟨#[]⟩ ∧ (look l p).isNone = true then ([], 2) else if 120 ≤ l.length then ([], 4) else (insL l (newItem n p v), 0)) := by
    intro b
    cases b with
    | true =>
      refine Ev.step (f := fun _ => some ([], 1)) (fun k => ?_) (Ev.now _)
      simp only [r10_Create.j0, if_true]
      exact hno 1
    | false =>
      simp only [Bool.false_eq_true, if_false]
      refine Ev.step (f := fun k => (r10_Find.f k l n).bind fun t => if t ≥ 0 then some ([], 3) else if p.toList = ([] : List UInt8) then r10_Create.j1 k l n p false v.f0 v.f1 v.f2 else (r10_Find.f k l p).bind fun t => r10_Create.j1 k l n p (decide (t < 0)) v.f0 v.f1 v.f2) (fun k => ?_) (Ev.bind (r10_Find_ev l n hl) ?_)
      · simp only [r10_Create.j0, Bool.false_eq_true, if_false]; rfl
      · cases hn : look l n with
        | some x =>
          refine Ev.congr (fun k => ?_) (Ev.now _)
          rw [if_pos (fnd_ge.2 ⟨x, hn⟩)]; rfl
        | none =>
          simp only [Option.isSome_none, Bool.false_eq_true, if_false]
          by_cases hp : p = ⟨#[]⟩
          · have h := hj1 false
            simp only [Bool.false_eq_true, if_false] at h
            rw [if_neg (fun q => q.1 hp)]
            refine Ev.congr (fun k => ?_) h
            rw [fnd_none hn, if_neg (by omega), if_pos (nm_empty.2 hp)]
          · have h := hj1 (decide (fnd l p < 0))
            refine Ev.congr (g := fun k => _) (f := fun k => (r10_Find.f k l p).bind fun t => r10_Create.j1 k l n p (decide (t < 0)) v.f0 v.f1 v.f2) (fun k => ?_) (Ev.bind (r10_Find_ev l p hl) ?_)
            · rw [fnd_none hn, if_neg (by omega), if_neg (fun q => hp (nm_empty.1 q))]
            · have e : (p ≠ ⟨#[]⟩ ∧ (look l p).isNone = true) ↔ (decide (fnd l p < 0) = true) := by
                rw [decide_eq_true_iff, fnd_neg]; simp [hp]
              rw [ite_iff e]; exact h
  unfold creR
  by_cases hn : n ≠ ⟨#[]⟩ ∧ n.size ≤ 24
  · have h := hj0 (!decide (MayP v))
    rw [ite_iff (q := (!decide (MayP v)) = true) (by simp [hn])]
    refine Ev.congr (fun k => ?_) h
    unfold r10_Create.f
    rw [r10_MayName_eq, hmv]
    simp only [Option.bind_some]
    rw [if_pos (by exact decide_eq_true hn)]
  · have h := hj0 true
    rw [if_pos (fun q => hn q.1)]
    rw [if_pos rfl] at h
    refine Ev.congr (fun k => ?_) h
    unfold r10_Create.f
    rw [r10_MayName_eq]
    simp only [Option.bind_some]
    rw [if_neg (by simpa using hn)]
theorem creR_right {l : List Item} (hl : RightP l) {n p : ByteArray} {v : Vec} (h : (creR l n p v).2 = 0) :
    (creR l n p v).1 = insL l (newItem n p v) ∧ RightP (insL l (newItem n p v)) ∧ look l n = none ∧ l.length < 120 ∧ n ≠ ⟨#[]⟩ ∧ n.size ≤ 24 ∧ MayP v ∧ (p = ⟨#[]⟩ ∨ ∃ y, look l p = some y) := by
  unfold creR at h ⊢
  split at h
  · simp at h
  rename_i h1
  split at h
  · simp at h
  rename_i h2
  split at h
  · simp at h
  rename_i h3
  split at h
  · simp at h
  rename_i h4
  rw [if_neg h1, if_neg h2, if_neg h3, if_neg h4]
  obtain ⟨⟨h5, h6⟩, h7⟩ := Classical.not_not.1 h1
  have hn : look l n = none := by cases q : look l n with
    | none => rfl
    | some x => rw [q] at h2; simp at h2
  have hp : p = ⟨#[]⟩ ∨ ∃ y, look l p = some y := by
    by_cases e : p = ⟨#[]⟩
    · exact .inl e
    · right
      cases q : look l p with
      | none => rw [q] at h3; exact absurd ⟨e, rfl⟩ h3
      | some y => exact ⟨y, rfl⟩
  have hz : ∀ c : Comp, c.of zVec = 0 := fun c => by cases c <;> rfl
  refine ⟨rfl, ins_right hl ⟨h5, h6, h7, fun c => ?_, fun c => ?_, fun c => ?_, ?_⟩ (fun c => ⟨hz c, hz c⟩) hn hp (by omega), hn, by omega, h5, h6, h7, hp⟩
  · show 0 ≤ c.of zVec ∧ c.of zVec ≤ _; rw [hz]; omega
  · show 0 ≤ c.of zVec ∧ c.of zVec ≤ _; rw [hz]; omega
  · show c.of zVec ≤ c.of v; rw [hz]; exact (h7 c).1
  · show (1 : Int) ≤ 1 ∧ (1 : Int) ≤ _; omega
theorem mem_insL {l : List Item} {it x : Item} : x ∈ insL l it ↔ x = it ∨ x ∈ l := by
  obtain ⟨a, b, e, e', _, _⟩ := insL_eq l it
  rw [e', e]; simp; constructor <;> (intro h; rcases h with h | h | h <;> simp [h])
theorem len_insL (l : List Item) (it : Item) : (insL l it).length = l.length + 1 := by
  obtain ⟨a, b, e, e', _, _⟩ := insL_eq l it
  rw [e', e]; simp; omega
theorem admR_right {l : List Item} (hl : RightP l) {n : ByteArray} {v : Vec} (h : (admR l n v).2 = 0) : (admR l n v).1 = admL l n v ∧ RightP (admL l n v) ∧ MayP v ∧ (∃ x, look l n = some x) ∧ ∀ x ∈ l, x.f0 ∈ up l n → LeP (vadd x.f4 v) x.f2 := by
  unfold admR at h ⊢
  split at h
  · simp at h
  rename_i h1
  split at h
  · simp at h
  rename_i h2
  split at h
  · rename_i h3
    rw [if_neg h1, if_neg h2, if_pos h3]
    have hv : MayP v := Classical.not_not.1 h1
    have hin : ∃ x, look l n = some x := by
      cases q : look l n with
      | none => rw [q] at h2; simp at h2
      | some x => exact ⟨x, rfl⟩
    have hsub : ∀ x ∈ l, x.f0 ∈ up l n → MayP (vadd x.f4 v) := fun x hx hm c => by
      have a := (hl.ok x hx).sub c; have b := hv c; have d := h3 x hx hm c; have e := (hl.ok x hx).lim c
      rw [of_vadd] at d ⊢; omega
    refine ⟨rfl, adm_right hl v hin (fun x hx e c => ?_) hsub h3, hv, hin, h3⟩
    have hm : x.f0 ∈ up l n := by obtain ⟨y, hy⟩ := hin; rw [e]; exact up_self hy
    have a := (hl.ok x hx).own c; have b := hv c; have d := hsub x hx hm c; have f := hl.sum c x hx
    have g : 0 ≤ csum c l x.f0 := sumBy_nonneg fun y hy => by
      split
      · exact ((hl.ok y hy).sub c).1
      · omega
    rw [of_vadd] at d ⊢; omega
  · simp at h
end Go.Proofs.Ytcgefpklljclgaa.Print

namespace Go.Proofs.Ytcgefpklljclgaa.Print
open Go.RowKit Go.Proofs.YtcgefpklljclgaaW.PrintWords Go.Proofs.YtcgefpklljclgaaW.PrintLast
set_option linter.unusedVariables false
set_option linter.unusedSimpArgs false
/-! trees made by numbers -/
theorem u8_bd {x : Int} (h : (Lit.int .u8 x).wf = true) : 0 ≤ x ∧ x ≤ 255 := by
  simp only [Lit.wf, Bool.and_eq_true, decide_eq_true_eq] at h
  exact h
def Bytes (ns : List Int) : Prop := ∀ x ∈ ns, 0 ≤ x ∧ x ≤ 255
theorem Bytes.rd {ns : List Int} (h : Bytes ns) (i : Int) : 0 ≤ rd ns i ∧ rd ns i ≤ 255 := by
  unfold Go.Proofs.YtcgefpklljclgaaW.PrintWords.rd
  rw [List.getD_eq_getElem?_getD]
  cases e : ns[i.toNat]? with
  | none => simp
  | some x => exact h x (List.mem_of_getElem? e)
/-- a name of one byte -/
def one (c : Int) : ByteArray := strOfNums [c]
structure MadeP (l : List Item) : Prop where
  right : RightP l
  len : l.length ≤ 24
  name : ∀ x ∈ l, ∃ c : Int, 97 ≤ c ∧ c ≤ 120 ∧ x.f0 = one c
  ver : ∀ x ∈ l, x.f5 = 1
  lim : ∀ x ∈ l, ∀ c : Comp, 20 ≤ c.of x.f2 ∧ c.of x.f2 ≤ 275
theorem made_nil : MadeP [] := ⟨right_nil, by simp, by simp, by simp, by simp⟩
theorem made_ins {l : List Item} (h : MadeP l) {n p : ByteArray} {v : Vec} {c : Int} (hc : 97 ≤ c ∧ c ≤ 120) (hn : n = one c) (hv : ∀ c : Comp, 20 ≤ c.of v ∧ c.of v ≤ 275) (hl : l.length < 24) (hr : RightP (insL l (newItem n p v))) : MadeP (insL l (newItem n p v)) where
  right := hr
  len := by rw [len_insL]; omega
  name := fun x hx => by
    rcases mem_insL.1 hx with rfl | hx
    · exact ⟨c, hc.1, hc.2, hn⟩
    · exact h.name x hx
  ver := fun x hx => by
    rcases mem_insL.1 hx with rfl | hx
    · rfl
    · exact h.ver x hx
  lim := fun x hx => by
    rcases mem_insL.1 hx with rfl | hx
    · exact hv
    · exact h.lim x hx
theorem made_adm {l : List Item} (h : MadeP l) {n : ByteArray} {v : Vec} (hr : RightP (admL l n v)) : MadeP (admL l n v) where
  right := hr
  len := by unfold admL; rw [List.length_map]; exact h.len
  name := fun x hx => by
    obtain ⟨y, hy, rfl⟩ := List.mem_map.1 hx
    exact h.name y hy
  ver := fun x hx => by
    obtain ⟨y, hy, rfl⟩ := List.mem_map.1 hx
    exact h.ver y hy
  lim := fun x hx => by
    obtain ⟨y, hy, rfl⟩ := List.mem_map.1 hx
    exact h.lim y hy
def MakesFrom (ns : List Int) (i : Int) : Prop := ∀ l, MadeP l → ∃ r, Ev (fun k => law12_Make.l0 k ns l i) r ∧ MadeP r
theorem tmod_in {a b : Int} (ha : 0 ≤ a) (hb : 0 < b) : 0 ≤ a.tmod b ∧ a.tmod b < b := by
  rw [Int.tmod_eq_emod_of_nonneg ha]; exact ⟨Int.emod_nonneg _ (by omega), Int.emod_lt_of_pos _ hb⟩
theorem tdiv_in {a b : Int} (ha : 0 ≤ a) (hb : 0 < b) : 0 ≤ a.tdiv b ∧ a.tdiv b ≤ a := by
  rw [Int.tdiv_eq_ediv_of_nonneg ha]; exact ⟨Int.ediv_nonneg ha (by omega), Int.ediv_le_self _ ha⟩
theorem made_j3 {ns : List Int} (hb : Bytes ns) (hs : ns.length ≤ 1000) {i : Int} (h0 : 0 ≤ i) (h2 : i + 2 < ns.length) (ih : MakesFrom ns (i + 3)) {l : List Item} (h : MadeP l) (hl : l.length < 24) (p : ByteArray) :
    ∃ r, Ev (fun k => law12_Make.j3 k ns l i p) r ∧ MadeP r := by
  have b1 := hb.rd (i + 1)
  have b2 := hb.rd (i + 2)
  have hlen := h.right.len
  have hnm : (wrap64 (97 + (Int.tmod (wrap64 ((l.length : Int) * 5)) 24))) % 256 = 97 + ((l.length : Int) * 5) % 24 := by
    rw [w64 (n := (l.length : Int) * 5) (by omega) (by omega), Int.tmod_eq_emod_of_nonneg (by omega), w64 (by omega) (by omega)]; omega
  generalize hc : 97 + ((l.length : Int) * 5) % 24 = c at hnm
  have hcb : 97 ≤ c ∧ c ≤ 120 := by omega
  have hlim : wrap64 (20 + wrap64 (rd ns (i + 1))) = 20 + rd ns (i + 1) := by rw [w64 (n := rd ns (i + 1)) (by omega) (by omega), w64 (by omega) (by omega)]
  obtain ⟨K, hK⟩ := r10_Create_ev (l := l) (by omega) (one c) p ⟨20 + rd ns (i + 1), 20 + rd ns (i + 1), 20 + rd ns (i + 1)⟩
  dsimp only at hK
  have hw1 : wrap64 (i + 1) = i + 1 := w64 (by omega) (by omega)
  have hw2 : wrap64 (i + 2) = i + 2 := w64 (by omega) (by omega)
  have hw3 : wrap64 (i + 3) = i + 3 := w64 (by omega) (by omega)
  have hr2 : wrap64 (rd ns (i + 2)) = rd ns (i + 2) := w64 (by omega) (by omega)
  by_cases hE : (creR l (one c) p ⟨20 + rd ns (i + 1), 20 + rd ns (i + 1), 20 + rd ns (i + 1)⟩).2 = 0
  · obtain ⟨e1, hR, hno, -, -, -, hv, -⟩ := creR_right h.right hE
    have hm := made_ins h (p := p) hcb rfl (v := ⟨20 + rd ns (i + 1), 20 + rd ns (i + 1), 20 + rd ns (i + 1)⟩) (fun c => by cases c <;> (simp only [Comp.of]; omega)) hl hR
    generalize hL : insL l (newItem (one c) p ⟨20 + rd ns (i + 1), 20 + rd ns (i + 1), 20 + rd ns (i + 1)⟩) = l1 at *
    have hl1 : 0 < l1.length := by rw [← hL, len_insL]; omega
    have hd := tdiv_in (a := rd ns (i + 2)) (b := 16) (by omega) (by omega)
    have hw4 : wrap64 (Int.tdiv (rd ns (i + 2)) 16) = Int.tdiv (rd ns (i + 2)) 16 := w64 (by omega) (by omega)
    have hq := tmod_in (a := Int.tdiv (rd ns (i + 2)) 16) (b := (l1.length : Int)) hd.1 (by omega)
    generalize hJ : Int.tmod (Int.tdiv (rd ns (i + 2)) 16) (l1.length : Int) = j at *
    obtain ⟨v, hv'⟩ : ∃ v : Vec, v = ⟨Int.tmod (rd ns (i + 2)) 16, wrap64 (Int.tdiv (Int.tmod (rd ns (i + 2)) 16) 2), Int.tmod (Int.tmod (rd ns (i + 2)) 16) 3⟩ := ⟨_, rfl⟩
    obtain ⟨K2, hK2⟩ := r10_Admit_ev hm.right (rd_T31 l1 j).f0 v
    dsimp only at hK2
    have main : ∀ r, Ev (fun k => law12_Make.l0 k ns (if (admR l1 (rd_T31 l1 j).f0 v).2 = 0 then (admR l1 (rd_T31 l1 j).f0 v).1 else l1) (i + 3)) r → Ev (fun k => law12_Make.j3 k ns l i p) r := by
      rintro r ⟨K3, hK3⟩
      refine ⟨K + K2 + K3 + 1, fun k hk => ?_⟩
      dsimp only at hK3
      obtain ⟨k, rfl⟩ : ∃ m, k = m + 1 := ⟨k - 1, by omega⟩
      simp only [law12_Make.j3]
      rw [hw1, hw2, hw3, hnm, hlim, hr2, if_pos (by omega), if_pos (by omega)]
      rw [show strOfNums [c] = one c from rfl, hK k (by omega)]
      simp only [Option.bind_some]
      rw [if_pos hE, if_pos (by omega), if_pos (by omega), e1, if_neg (by omega), hw4, hJ, if_pos hq.1, if_pos hq.2]
      have := hK2 k (by omega)
      rw [hv'] at this
      rw [this]
      simp only [Option.bind_some]
      rw [← hv']
      have := hK3 k (by omega)
      by_cases q : (admR l1 (rd_T31 l1 j).f0 v).2 = 0
      · rw [if_pos q] at this ⊢; exact this
      · rw [if_neg q] at this ⊢; exact this
    by_cases q : (admR l1 (rd_T31 l1 j).f0 v).2 = 0
    · rw [if_pos q] at main
      obtain ⟨e2, hR2, -⟩ := admR_right hm.right q
      rw [e2] at main
      obtain ⟨r, hr, hM⟩ := ih _ (made_adm hm hR2)
      exact ⟨r, main r hr, hM⟩
    · rw [if_neg q] at main
      obtain ⟨r, hr, hM⟩ := ih _ hm
      exact ⟨r, main r hr, hM⟩
  · obtain ⟨r, ⟨K3, hK3⟩, hM⟩ := ih l h
    dsimp only at hK3
    refine ⟨r, ⟨K + K3 + 1, fun k hk => ?_⟩, hM⟩
    obtain ⟨k, rfl⟩ : ∃ m, k = m + 1 := ⟨k - 1, by omega⟩
    simp only [law12_Make.j3]
    rw [hw1, hw2, hw3, hnm, hlim, if_pos (by omega), if_pos (by omega)]
    rw [show strOfNums [c] = one c from rfl, hK k (by omega)]
    simp only [Option.bind_some]
    rw [if_neg hE]
    exact hK3 k (by omega)
theorem made_step {ns : List Int} (hb : Bytes ns) (hs : ns.length ≤ 1000) {i : Int} (h0 : 0 ≤ i) (h2 : i + 2 < ns.length) (ih : MakesFrom ns (i + 3)) : MakesFrom ns i := by
  intro l h
  have hw2 : wrap64 (i + 2) = i + 2 := w64 (by omega) (by omega)
  have b0 := hb.rd i
  have hr0 : wrap64 (rd ns i) = rd ns i := w64 (by omega) (by omega)
  by_cases hl : l.length < 24
  · have h3 := made_j3 hb hs h0 h2 ih h hl
    have hj2 : ∀ b, (b = true → 0 < l.length) → ∃ r, Ev (fun k => law12_Make.j2 k ns l i (rd ns i) ⟨#[]⟩ b) r ∧ MadeP r := by
      intro b hbl
      cases b with
      | false =>
        obtain ⟨r, hr, hM⟩ := h3 ⟨#[]⟩
        refine ⟨r, Ev.step (fun k => ?_) hr, hM⟩
        simp only [law12_Make.j2, Bool.false_eq_true, if_false]
      | true =>
        have hpos := hbl rfl
        have hd := tdiv_in (a := rd ns i) (b := 3) (by omega) (by omega)
        have hw : wrap64 (Int.tdiv (rd ns i) 3) = Int.tdiv (rd ns i) 3 := w64 (by omega) (by omega)
        have hq := tmod_in (a := Int.tdiv (rd ns i) 3) (b := (l.length : Int)) hd.1 (by omega)
        obtain ⟨r, hr, hM⟩ := h3 (rd_T31 l (Int.tmod (Int.tdiv (rd ns i) 3) (l.length : Int))).f0
        refine ⟨r, Ev.step (fun k => ?_) hr, hM⟩
        simp only [law12_Make.j2, if_true]
        rw [hw, if_neg (by omega), if_pos hq.1, if_pos hq.2]
    have hj1 : ∃ r, Ev (fun k => law12_Make.j1 k ns l i true) r ∧ MadeP r := by
      by_cases hpos : 0 < l.length
      · obtain ⟨r, hr, hM⟩ := hj2 (decide ((Int.tmod (rd ns i) 3) > 0)) (fun _ => hpos)
        refine ⟨r, Ev.step (fun k => ?_) hr, hM⟩
        simp only [law12_Make.j1, if_true]
        rw [if_pos (by omega), if_pos (by omega), if_pos (by omega), hr0]
      · obtain ⟨r, hr, hM⟩ := hj2 false (fun q => by cases q)
        refine ⟨r, Ev.step (fun k => ?_) hr, hM⟩
        simp only [law12_Make.j1, if_true]
        rw [if_pos (by omega), if_pos (by omega), if_neg (by omega), hr0]
    obtain ⟨r, hr, hM⟩ := hj1
    refine ⟨r, Ev.step (fun k => ?_) hr, hM⟩
    simp only [law12_Make.l0]
    rw [hw2, if_pos (by omega), show decide ((l.length : Int) < 24) = true from decide_eq_true (by omega)]
  · refine ⟨l, Ev.step (f := fun k => law12_Make.j1 k ns l i false) (fun k => ?_) (Ev.step (f := fun _ => some l) (fun k => ?_) (Ev.now _)), h⟩
    · simp only [law12_Make.l0]
      rw [hw2, if_pos (by omega), show decide ((l.length : Int) < 24) = false from decide_eq_false (by omega)]
    · simp only [law12_Make.j1, Bool.false_eq_true, if_false]
theorem made_from {ns : List Int} (hb : Bytes ns) (hs : ns.length ≤ 1000) : ∀ (d : Nat) (i : Int), 0 ≤ i → i ≤ 1003 → (ns.length : Int) - i ≤ d → MakesFrom ns i
  | d, i, h0, h1, hd => by
    by_cases h2 : i + 2 < ns.length
    · cases d with
      | zero => omega
      | succ d => exact made_step hb hs h0 h2 (made_from hb hs d (i + 3) (by omega) (by omega) (by omega))
    · intro l h
      have hw2 : wrap64 (i + 2) = i + 2 := w64 (by omega) (by omega)
      refine ⟨l, Ev.step (f := fun k => law12_Make.j1 k ns l i false) (fun k => ?_) (Ev.step (f := fun _ => some l) (fun k => ?_) (Ev.now _)), h⟩
      · simp only [law12_Make.l0]
        rw [hw2, if_neg (by omega)]
      · simp only [law12_Make.j1, Bool.false_eq_true, if_false]
theorem made_all {ns : List Int} (hb : Bytes ns) (hs : ns.length ≤ 1000) : ∃ l, Ev (fun k => law12_Make.f k ns) l ∧ MadeP l := made_from hb hs ns.length 0 (by omega) (by omega) (by omega) [] made_nil
end Go.Proofs.Ytcgefpklljclgaa.Print

namespace Go.Proofs.Ytcgefpklljclgaa.Print
open Go.RowKit Go.Proofs.YtcgefpklljclgaaW.PrintWords Go.Proofs.YtcgefpklljclgaaW.PrintLast Go.Proofs.YtcgefpklljclgaaW.PrintMore
attribute [local go_sem] max2_int min2_int max_two min_two max_three min_three max_four min_four   -- for this text's walks alone
set_option linter.unusedVariables false
set_option linter.unusedSimpArgs false
end Go.Proofs.Ytcgefpklljclgaa.Print

namespace Go.Proofs.Ytcgefpklljclgaa.Print
open Go.RowKit Go.Proofs.YtcgefpklljclgaaW.PrintWords Go.Proofs.YtcgefpklljclgaaW.PrintLast Go.Proofs.YtcgefpklljclgaaW.PrintMore
attribute [local go_sem] max2_int min2_int max_two min_two max_three min_three max_four min_four   -- for this text's walks alone
set_option linter.unusedVariables false
set_option linter.unusedSimpArgs false
end Go.Proofs.Ytcgefpklljclgaa.Print

namespace Go.Proofs.Ytcgefpklljclgaa.Print
open Go.RowKit Go.Proofs.YtcgefpklljclgaaW.PrintWords Go.Proofs.YtcgefpklljclgaaW.PrintLast Go.Proofs.YtcgefpklljclgaaW.PrintMore
attribute [local go_sem] max2_int min2_int max_two min_two max_three min_three max_four min_four   -- for this text's walks alone
set_option linter.unusedVariables false
set_option linter.unusedSimpArgs false
end Go.Proofs.Ytcgefpklljclgaa.Print

namespace Go.Proofs.Ytcgefpklljclgaa.Print
open Go.RowKit Go.Proofs.YtcgefpklljclgaaW.PrintWords Go.Proofs.YtcgefpklljclgaaW.PrintLast Go.Proofs.YtcgefpklljclgaaW.PrintMore
attribute [local go_sem] max2_int min2_int max_two min_two max_three min_three max_four min_four   -- for this text's walks alone
set_option linter.unusedVariables false
set_option linter.unusedSimpArgs false
end Go.Proofs.Ytcgefpklljclgaa.Print

namespace Go.Proofs.Ytcgefpklljclgaa.Print
open Go.RowKit Go.Proofs.YtcgefpklljclgaaW.PrintWords Go.Proofs.YtcgefpklljclgaaW.PrintLast Go.Proofs.YtcgefpklljclgaaW.PrintMore
attribute [local go_sem] max2_int min2_int max_two min_two max_three min_three max_four min_four   -- for this text's walks alone
set_option linter.unusedVariables false
set_option linter.unusedSimpArgs false
end Go.Proofs.Ytcgefpklljclgaa.Print

namespace Go.Proofs.Ytcgefpklljclgaa.Print
open Go.RowKit Go.Proofs.YtcgefpklljclgaaW.PrintWords Go.Proofs.YtcgefpklljclgaaW.PrintLast Go.Proofs.YtcgefpklljclgaaW.PrintMore
set_option linter.unusedVariables false
set_option linter.unusedSimpArgs false
/-! the program's way up -/
theorem tree_Up_l0 (l : List Item) (hl : l.length < 1000000) : ∀ (m : Nat) (n : ByteArray) (out : List ByteArray), out.length + m = l.length + 1 →
    Ev (fun k => tree_Up.l0 k l out (fnd l n)) (out ++ upGo l m n)
  | 0, n, out, hm => by
    rw [upGo.eq_1, List.append_nil]
    refine Ev.step (f := fun _ => some out) (fun k => ?_) (Ev.now _)
    simp only [tree_Up.l0]
    by_cases h : 0 ≤ fnd l n
    · rw [if_pos h, if_neg (by omega)]
    · rw [if_neg h]
  | m + 1, n, out, hm => by
    cases h : look l n with
    | none =>
      rw [upGo_none h, List.append_nil]
      refine Ev.step (f := fun _ => some out) (fun k => ?_) (Ev.now _)
      simp only [tree_Up.l0]
      rw [fnd_none h, if_neg (by omega)]
    | some x =>
      rw [upGo_some h]
      have h0 := fnd_ge.2 ⟨x, h⟩
      have h1 := fnd_lt l n
      obtain ⟨hx, hn⟩ := look_mem h
      refine Ev.step (f := fun k => tree_Up.l0 k l (out ++ [n]) (fnd l x.f1)) (fun k => ?_) ?_
      · simp only [tree_Up.l0]
        rw [if_pos h0, if_pos (by omega), if_pos h0, if_pos h1, if_pos (by omega), fnd_rd h, hn, tree_Find_eq]
        rfl
      · have := tree_Up_l0 l hl m x.f1 (out ++ [n]) (by simp; omega)
        simpa using this
theorem tree_Up_ev (l : List Item) (n : ByteArray) (hl : l.length < 1000000) : Ev (fun k => tree_Up.f k l n) (up l n) := by
  have := tree_Up_l0 l hl (l.length + 1) n [] (by simp)
  rw [List.nil_append] at this
  exact this
theorem up_in {l : List Item} {n u : ByteArray} (h : u ∈ up l n) : ∃ x, look l u = some x := by
  have : ∀ (m : Nat) (n : ByteArray), u ∈ upGo l m n → ∃ x, look l u = some x := by
    intro m
    induction m with
    | zero => intro n h; cases h
    | succ m ih =>
      intro n h
      cases e : look l n with
      | none => rw [upGo_none e] at h; cases h
      | some x =>
        rw [upGo_some e] at h
        rcases List.mem_cons.1 h with rfl | h
        · exact ⟨x, e⟩
        · exact ih _ h
  exact this _ _ h
theorem vec_Add2 {a b : Vec} (ha : MayP a) (hb : MayP b) : vec_Add.f [a, b] = some (a.f0 + b.f0, a.f1 + b.f1, a.f2 + b.f2) := by
  have a0 := ha .cpu; have a1 := ha .mem; have a2 := ha .pods
  have b0 := hb .cpu; have b1 := hb .mem; have b2 := hb .pods
  simp only [Comp.of] at a0 a1 a2 b0 b1 b2
  simp only [vec_Add.f, vecByF]
  rw [w64 (n := 0 + a.f0) (by omega) (by omega), w64 (n := 0 + a.f1) (by omega) (by omega), w64 (n := 0 + a.f2) (by omega) (by omega), w64 (by omega) (by omega), w64 (by omega) (by omega), w64 (by omega) (by omega), Int.zero_add, Int.zero_add, Int.zero_add]
end Go.Proofs.Ytcgefpklljclgaa.Print

namespace Go.Proofs.Ytcgefpklljclgaa.Print
open Go.RowKit Go.Proofs.YtcgefpklljclgaaW.PrintWords Go.Proofs.YtcgefpklljclgaaW.PrintLast Go.Proofs.YtcgefpklljclgaaW.PrintMore
set_option linter.unusedVariables false
set_option linter.unusedSimpArgs false
theorem sumBy_ge {g : Item → Int} : ∀ {l : List Item}, (∀ x ∈ l, 0 ≤ g x) → ∀ {x : Item}, x ∈ l → g x ≤ sumBy g l
  | [], _, _, h => by cases h
  | y :: l, hn, x, hx => by
    rw [sumBy_cons]
    have h0 := hn y (by simp)
    have h1 := sumBy_nonneg (g := g) (l := l) (fun z hz => hn z (by simp [hz]))
    rcases List.mem_cons.1 hx with rfl | hx
    · omega
    · have := sumBy_ge (g := g) (l := l) (fun z hz => hn z (by simp [hz])) hx
      omega
/-- what a child has in use its parent has -/
theorem child_le {l : List Item} (hl : RightP l) {x y : Item} (hx : x ∈ l) (hy : look l x.f1 = some y) (c : Comp) : c.of x.f4 ≤ c.of y.f4 := by
  obtain ⟨hy1, hy2⟩ := look_mem hy
  have h1 := hl.sum c y hy1
  have h2 := ((hl.ok y hy1).own c).1
  have h3 : c.of x.f4 ≤ csum c l y.f0 := by
    have := sumBy_ge (g := fun z => if z.f1 = y.f0 then c.of z.f4 else 0) (l := l) (fun z hz => by
      show 0 ≤ (if z.f1 = y.f0 then c.of z.f4 else 0)
      split
      · exact ((hl.ok z hz).sub c).1
      · omega) hx
    rw [if_pos hy2.symm] at this
    exact this
  omega
theorem sub_up' {l : List Item} (hl : RightP l) (c : Comp) {n : ByteArray} {us : List ByteArray} (h : Chain l n us) : ∀ {x : Item}, look l n = some x → ∀ {z : Item}, z ∈ l → z.f0 ∈ us → c.of x.f4 ≤ c.of z.f4 := by
  induction h with
  | nil h => intro x _ z _ hz; cases hz
  | @cons n x us h k ih =>
    intro x' hx' z hz hm
    rw [h] at hx'
    obtain rfl := Option.some.inj hx'
    obtain ⟨hx, hn⟩ := look_mem h
    rcases List.mem_cons.1 hm with e | hm
    · obtain rfl := hl.eq_of hz hx (e.trans hn.symm)
      omega
    · cases k with
      | nil _ => cases hm
      | @cons _ y _ hy k =>
        have h1 := child_le hl hx hy c
        have h2 := ih hy hz hm
        omega
/-- what is in use below is in use above -/
theorem sub_up {l : List Item} (hl : RightP l) {x z : Item} (hx : x ∈ l) (hz : z ∈ l) (hm : z.f0 ∈ up l x.f0) (c : Comp) : c.of x.f4 ≤ c.of z.f4 := sub_up' hl c (hl.chainAll x.f0) (hl.look hx) hz hm
theorem own_sub {l : List Item} (hl : RightP l) {x : Item} (hx : x ∈ l) (c : Comp) : c.of x.f3 ≤ c.of x.f4 := by
  have h1 := hl.sum c x hx
  have h2 : 0 ≤ csum c l x.f0 := sumBy_nonneg fun z hz => by
    split
    · exact ((hl.ok z hz).sub c).1
    · omega
  omega
/-! letting out -/
def vneg (v : Vec) : Vec := ⟨-v.f0, -v.f1, -v.f2⟩
theorem of_vneg (c : Comp) (v : Vec) : c.of (vneg v) = - c.of v := by cases c <;> rfl
def relL (l : List Item) (n : ByteArray) (v : Vec) : List Item := admL l n (vneg v)
def relR (l : List Item) (n : ByteArray) (v : Vec) : List Item × Int :=
  if ¬ MayP v then ([], 1) else if (look l n).isNone = true then ([], 2) else if LeP v (rd_T31 l (fnd l n)).f3 then (relL l n v, 0) else ([], 1)
theorem rel_right {l : List Item} (hl : RightP l) {n : ByteArray} {x : Item} (hx : look l n = some x) {v : Vec} (hv : MayP v) (h : LeP v x.f3) : RightP (relL l n v) := by
  obtain ⟨hm, hn⟩ := look_mem hx
  have hs : ∀ z ∈ l, z.f0 ∈ up l n → ∀ c : Comp, c.of v ≤ c.of z.f4 := fun z hz hzu c => by
    have h1 := own_sub hl hm c
    have h2 := sub_up hl hm hz (by rw [hn]; exact hzu) c
    have h3 := h c
    omega
  refine adm_right hl (vneg v) ⟨x, hx⟩ (fun z hz e c => ?_) (fun z hz e c => ?_) (fun z hz e c => ?_)
  · obtain rfl := hl.eq_of hz hm (e.trans hn.symm)
    have h1 := (hl.ok z hz).own c; have h2 := h c; have h3 := hv c
    rw [of_vadd, of_vneg]; omega
  · have h1 := (hl.ok z hz).sub c; have h2 := hs z hz e c; have h3 := hv c
    rw [of_vadd, of_vneg]; omega
  · have h1 := (hl.ok z hz).fit c; have h3 := hv c
    rw [of_vadd, of_vneg]; omega
theorem relR_right {l : List Item} (hl : RightP l) {n : ByteArray} {v : Vec} (h : (relR l n v).2 = 0) : (relR l n v).1 = relL l n v ∧ RightP (relL l n v) ∧ ∃ x, look l n = some x := by
  unfold relR at h ⊢
  split at h
  · simp at h
  rename_i h1
  split at h
  · simp at h
  rename_i h2
  split at h
  · rename_i h3
    rw [if_neg h1, if_neg h2, if_pos h3]
    obtain ⟨x, hx⟩ : ∃ x, look l n = some x := by
      cases q : look l n with
      | none => rw [q] at h2; simp at h2
      | some x => exact ⟨x, rfl⟩
    rw [fnd_rd hx] at h3
    exact ⟨rfl, rel_right hl hx (Classical.not_not.1 h1) h3, x, hx⟩
  · simp at h
end Go.Proofs.Ytcgefpklljclgaa.Print

namespace Go.Proofs.Ytcgefpklljclgaa.Print
open Go.RowKit Go.Proofs.YtcgefpklljclgaaW.PrintWords Go.Proofs.YtcgefpklljclgaaW.PrintLast Go.Proofs.YtcgefpklljclgaaW.PrintMore
set_option linter.unusedVariables false
set_option linter.unusedSimpArgs false
/-! when a tree is right: place by place -/
def Ok1 (l : List Item) (i : Nat) : Prop := ItemOK (rd_T31 l i) ∧ (0 < i → lt (rd_T31 l ((i : Int) - 1)).f0 (rd_T31 l i).f0 = true) ∧ ((rd_T31 l i).f1 = ⟨#[]⟩ ∨ ∃ y, look l (rd_T31 l i).f1 = some y)
def Ok2 (l : List Item) (i : Nat) : Prop := (∀ c : Comp, c.of (rd_T31 l i).f4 = c.of (rd_T31 l i).f3 + csum c l (rd_T31 l i).f0)
def Ok3 (l : List Item) (i : Nat) : Prop := (up l (rd_T31 l i).f0).length ≤ l.length
theorem rd_get {l : List Item} {i : Nat} (h : i < l.length) : rd_T31 l (i : Int) = l[i] := by rw [rd_item, Int.toNat_natCast]; simp [h]
theorem rd_mem {l : List Item} {i : Nat} (h : i < l.length) : rd_T31 l (i : Int) ∈ l := by rw [rd_get h]; exact List.getElem_mem h
theorem rightP_iff (l : List Item) : RightP l ↔ l.length ≤ 120 ∧ (∀ i, i < l.length → Ok1 l i) ∧ (∀ i, i < l.length → Ok2 l i) ∧ (∀ i, i < l.length → Ok3 l i) := by
  constructor
  · intro h
    refine ⟨h.len, fun i hi => ⟨h.ok _ (rd_mem hi), fun h0 => ?_, h.par _ (rd_mem hi)⟩, fun i hi c => h.sum c _ (rd_mem hi), fun i hi => up_len_iff.2 (h.chain _ (rd_mem hi))⟩
    have := List.pairwise_iff_getElem.1 h.sorted (i - 1) i (by omega) hi (by omega)
    rw [show ((i : Int) - 1) = ((i - 1 : Nat) : Int) from by omega, rd_get (show i - 1 < l.length by omega), rd_get hi]
    exact this
  · rintro ⟨h1, h2, h3, h4⟩
    have hx : ∀ x ∈ l, ∃ i, i < l.length ∧ rd_T31 l (i : Int) = x := fun x hx => by
      obtain ⟨i, hi, e⟩ := List.getElem_of_mem hx
      exact ⟨i, hi, by rw [rd_get hi]; exact e⟩
    refine ⟨h1, fun x hx' => ?_, ?_, fun x hx' => ?_, fun c x hx' => ?_, fun x hx' => ?_⟩
    · obtain ⟨i, hi, rfl⟩ := hx x hx'
      exact (h2 i hi).1
    · rw [List.pairwise_iff_getElem]
      intro i j hi hj hij
      have step : ∀ d : Nat, ∀ hd : i + 1 + d < l.length, lt l[i].f0 (l[i + 1 + d]).f0 = true := by
        intro d
        induction d with
        | zero =>
          intro hd
          have := (h2 (i + 1) (by omega)).2.1 (by omega)
          rw [show (((i + 1 : Nat) : Int) - 1) = (i : Int) from by omega, rd_get hi, rd_get (show i + 1 < l.length by omega)] at this
          exact this
        | succ d ih =>
          intro hd
          have := (h2 (i + 1 + (d + 1)) hd).2.1 (by omega)
          rw [show (((i + 1 + (d + 1) : Nat) : Int) - 1) = ((i + 1 + d : Nat) : Int) from by omega, rd_get (show i + 1 + d < l.length by omega), rd_get hd] at this
          exact lt_trans (ih (by omega)) this
      have := step (j - (i + 1)) (by omega)
      simpa [show i + 1 + (j - (i + 1)) = j by omega] using this
    · obtain ⟨i, hi, rfl⟩ := hx x hx'
      exact (h2 i hi).2.2
    · obtain ⟨i, hi, rfl⟩ := hx x hx'
      exact h3 i hi c
    · obtain ⟨i, hi, rfl⟩ := hx x hx'
      exact up_len_iff.1 (h4 i hi)
end Go.Proofs.Ytcgefpklljclgaa.Print

namespace Go.Proofs.Ytcgefpklljclgaa.Print
open Go.RowKit Go.Proofs.YtcgefpklljclgaaW.PrintWords Go.Proofs.YtcgefpklljclgaaW.PrintLast Go.Proofs.YtcgefpklljclgaaW.PrintMore
attribute [local go_sem] max2_int min2_int max_two min_two max_three min_three max_four min_four   -- for this text's walks alone
set_option linter.unusedVariables false
set_option linter.unusedSimpArgs false
end Go.Proofs.Ytcgefpklljclgaa.Print

namespace Go.Proofs.Ytcgefpklljclgaa.Print
open Go.RowKit Go.Proofs.YtcgefpklljclgaaW.PrintWords Go.Proofs.YtcgefpklljclgaaW.PrintLast Go.Proofs.YtcgefpklljclgaaW.PrintMore
attribute [local go_sem] max2_int min2_int max_two min_two max_three min_three max_four min_four   -- for this text's walks alone
set_option linter.unusedVariables false
set_option linter.unusedSimpArgs false
end Go.Proofs.Ytcgefpklljclgaa.Print

namespace Go.Proofs.Ytcgefpklljclgaa.Print
open Go.RowKit Go.Proofs.YtcgefpklljclgaaW.PrintWords Go.Proofs.YtcgefpklljclgaaW.PrintLast Go.Proofs.YtcgefpklljclgaaW.PrintMore
attribute [local go_sem] max2_int min2_int max_two min_two max_three min_three max_four min_four   -- for this text's walks alone
set_option linter.unusedVariables false
set_option linter.unusedSimpArgs false
end Go.Proofs.Ytcgefpklljclgaa.Print

namespace Go.Proofs.Ytcgefpklljclgaa.Print
open Go.RowKit Go.Proofs.YtcgefpklljclgaaW.PrintWords Go.Proofs.YtcgefpklljclgaaW.PrintLast Go.Proofs.YtcgefpklljclgaaW.PrintMore
attribute [local go_sem] max2_int min2_int max_two min_two max_three min_three max_four min_four   -- for this text's walks alone
set_option linter.unusedVariables false
set_option linter.unusedSimpArgs false
end Go.Proofs.Ytcgefpklljclgaa.Print

namespace Go.Proofs.Ytcgefpklljclgaa.Print
open Go.RowKit Go.Proofs.YtcgefpklljclgaaW.PrintWords Go.Proofs.YtcgefpklljclgaaW.PrintLast Go.Proofs.YtcgefpklljclgaaW.PrintMore
attribute [local go_sem] max2_int min2_int max_two min_two max_three min_three max_four min_four   -- for this text's walks alone
set_option linter.unusedVariables false
set_option linter.unusedSimpArgs false
end Go.Proofs.Ytcgefpklljclgaa.Print

namespace Go.Proofs.Ytcgefpklljclgaa.Print
open Go.RowKit Go.Proofs.YtcgefpklljclgaaW.PrintWords Go.Proofs.YtcgefpklljclgaaW.PrintLast Go.Proofs.YtcgefpklljclgaaW.PrintMore
set_option linter.unusedVariables false
set_option linter.unusedSimpArgs false
def addV (a : Vec) (ws : List Item) : Vec := ⟨a.f0 + sumBy (fun x => x.f4.f0) ws, a.f1 + sumBy (fun x => x.f4.f1) ws, a.f2 + sumBy (fun x => x.f4.f2) ws⟩
theorem addV_nil (a : Vec) : addV a [] = a := by unfold addV; simp [sumBy_nil]
def SmallV (a : Vec) (n : Nat) : Prop := ∀ c : Comp, 0 ≤ c.of a ∧ c.of a ≤ 1099511627776 * n
theorem small_wrap {a b : Vec} {n : Nat} (ha : SmallV a n) (hb : MayP b) (hn : n ≤ 1000) : wrap64 (a.f0 + b.f0) = (vadd a b).f0 ∧ wrap64 (a.f1 + b.f1) = (vadd a b).f1 ∧ wrap64 (a.f2 + b.f2) = (vadd a b).f2 := by
  have a0 := ha .cpu; have a1 := ha .mem; have a2 := ha .pods
  have b0 := hb .cpu; have b1 := hb .mem; have b2 := hb .pods
  simp only [Comp.of] at a0 a1 a2 b0 b1 b2
  exact ⟨w64 (by omega) (by omega), w64 (by omega) (by omega), w64 (by omega) (by omega)⟩
end Go.Proofs.Ytcgefpklljclgaa.Print

namespace Go.Proofs.Ytcgefpklljclgaa.Print
open Go.RowKit Go.Proofs.YtcgefpklljclgaaW.PrintWords Go.Proofs.YtcgefpklljclgaaW.PrintLast Go.Proofs.YtcgefpklljclgaaW.PrintMore
attribute [local go_sem] max2_int min2_int max_two min_two max_three min_three max_four min_four   -- for this text's walks alone
set_option linter.unusedVariables false
set_option linter.unusedSimpArgs false
end Go.Proofs.Ytcgefpklljclgaa.Print

namespace Go.Proofs.Ytcgefpklljclgaa.Print
open Go.RowKit Go.Proofs.YtcgefpklljclgaaW.PrintWords Go.Proofs.YtcgefpklljclgaaW.PrintLast Go.Proofs.YtcgefpklljclgaaW.PrintMore
set_option linter.unusedVariables false
set_option linter.unusedSimpArgs false
theorem sumBy_filter (g : Item → Int) (p : Item → Bool) : ∀ l : List Item, sumBy g (l.filter p) = sumBy (fun x => if p x = true then g x else 0) l
  | [] => rfl
  | x :: l => by
    rw [sumBy_cons]
    by_cases h : p x = true
    · rw [List.filter_cons_of_pos h, sumBy_cons, sumBy_filter g p l, if_pos h]
    · rw [List.filter_cons_of_neg h, sumBy_filter g p l, if_neg h]; omega
end Go.Proofs.Ytcgefpklljclgaa.Print

namespace Go.Proofs.Ytcgefpklljclgaa.Print
open Go.RowKit Go.Proofs.YtcgefpklljclgaaW.PrintWords Go.Proofs.YtcgefpklljclgaaW.PrintLast Go.Proofs.YtcgefpklljclgaaW.PrintMore
set_option linter.unusedVariables false
set_option linter.unusedSimpArgs false
/-! the document's answer of a right tree -/
theorem of_addV (c : Comp) (a : Vec) (ws : List Item) : c.of (addV a ws) = c.of a + sumBy (fun x => c.of x.f4) ws := by cases c <;> rfl
theorem addV_snoc (a : Vec) (ws : List Item) (y : Item) : addV a (ws ++ [y]) = vadd (addV a ws) y.f4 := vec_ext fun c => by
  rw [of_vadd, of_addV, of_addV, sumBy_append, sumBy_cons, sumBy_nil]; omega
theorem small_addV {a : Vec} {n : Nat} (ha : SmallV a n) {ws : List Item} (hw : ∀ y ∈ ws, MayP y.f4) : SmallV (addV a ws) (n + ws.length) := fun c => by
  have h1 := ha c
  have h2 := sumBy_nonneg (g := fun x => c.of x.f4) (l := ws) (fun y hy => (hw y hy c).1)
  have h3 := sumBy_le (g := fun x => c.of x.f4) (B := 1099511627776) (l := ws) (fun y hy => (hw y hy c).2)
  rw [of_addV]
  omega
theorem r10_add_small {a b : Vec} {n : Nat} (ha : SmallV a n) (hb : MayP b) (hn : n ≤ 1000) : r10_Add.f a.f0 a.f1 a.f2 b.f0 b.f1 b.f2 = some ((vadd a b).f0, (vadd a b).f1, (vadd a b).f2) := by
  obtain ⟨e0, e1, e2⟩ := small_wrap ha hb hn
  unfold r10_Add.f
  rw [e0, e1, e2]
theorem all_below {l : List Item} (hl : RightP l) {x : Item} (hx : x ∈ l) : addV x.f3 (l.filter (fun y => decide (y.f1 = x.f0))) = x.f4 := vec_ext fun c => by
  rw [of_addV, sumBy_filter]
  simp only [decide_eq_true_eq]
  have := hl.sum c x hx
  unfold csum at this
  omega
theorem r10_Right_l2 {l : List Item} (hl : RightP l) {i : Nat} (hi : i < l.length) {x : Item} (hx : rd_T31 l i = x)
    (rest : Ev (fun k => r10_Right.l1 k l ((i + 1 : Nat) : Int)) true) : ∀ (d j : Nat), l.length - j = d → j ≤ l.length →
    Ev (fun k => r10_Right.l2 k l i j (addV x.f3 ((l.take j).filter (fun y => decide (y.f1 = x.f0)))).f0 (addV x.f3 ((l.take j).filter (fun y => decide (y.f1 = x.f0)))).f1 (addV x.f3 ((l.take j).filter (fun y => decide (y.f1 = x.f0)))).f2) true
  | 0, j, hd, hj => by
    have hlen := hl.len
    have hxm : x ∈ l := by rw [← hx]; exact rd_mem hi
    obtain rfl : j = l.length := by omega
    rw [List.take_length, all_below hl hxm]
    refine Ev.step (fun k => r10_Right.l2.eq_2 (k := k) ..) ?_
    have e1 : ((i : Int) < (l.length : Int)) = True := eq_true (by omega)
    have e2 : ((0 : Int) ≤ (i : Int)) = True := eq_true (by omega)
    have e3 : wrap64 ((i : Int) + 1) = ((i + 1 : Nat) : Int) := by rw [w64 (by omega) (by omega)]; rfl
    simp only [Int.lt_irrefl, if_false, e1, e2, if_true, hx, e3, beq_self_eq_true, Bool.not_true, Bool.or_self, Bool.false_eq_true]
    refine Ev.bind (r10_Up_ev l x.f0 (by omega)) (Ev.congr (fun k => if_neg ?_) rest)
    have := up_len_iff.2 (hl.chain x hxm)
    omega
  | d + 1, j, hd, hj => by
    have hlen := hl.len
    have hlt : j < l.length := by omega
    have ih := r10_Right_l2 hl hi hx rest d (j + 1) (by omega) (by omega)
    have hrd := rd_get hlt
    have hym : MayP (l[j]).f4 := (hl.ok _ (List.getElem_mem hlt)).sub
    rw [List.take_succ_eq_append_getElem hlt, List.filter_append] at ih
    have hxm : x ∈ l := by rw [← hx]; exact rd_mem hi
    have hsm := small_addV (a := x.f3) (n := 1) (fun c => by have := (hl.ok x hxm).own c; omega) (ws := (l.take j).filter (fun y => decide (y.f1 = x.f0))) (fun y hy => (hl.ok y (List.mem_of_mem_take (List.mem_filter.1 hy).1)).sub)
    have hfl := List.length_filter_le (fun y : Item => decide (y.f1 = x.f0)) (l.take j)
    rw [List.length_take] at hfl
    generalize l[j] = y at hrd ih hym
    refine Ev.step (fun k => r10_Right.l2.eq_2 (k := k) ..) ?_
    have e1 : ((i : Int) < (l.length : Int)) = True := eq_true (by omega)
    have e2 : ((0 : Int) ≤ (i : Int)) = True := eq_true (by omega)
    have e4 : ((j : Int) < (l.length : Int)) = True := eq_true (by omega)
    have e5 : ((0 : Int) ≤ (j : Int)) = True := eq_true (by omega)
    have e3 : wrap64 ((j : Int) + 1) = ((j + 1 : Nat) : Int) := by rw [w64 (by omega) (by omega)]; rfl
    simp only [e1, e2, e4, e5, if_true, hx, hrd, e3]
    by_cases hy : y.f1 = x.f0
    · have e6 : (y.f1.toList = x.f0.toList) = True := eq_true (nm_inj.2 hy)
      rw [List.filter_cons_of_pos (by simpa using hy), List.filter_nil, addV_snoc] at ih
      simp only [e6, if_true, r10_add_small hsm hym (by omega), Option.bind_some]
      exact ih
    · have e6 : (y.f1.toList = x.f0.toList) = False := eq_false (fun q => hy (nm_inj.1 q))
      rw [List.filter_cons_of_neg (by simpa using hy), List.filter_nil, List.append_nil] at ih
      simp only [e6, if_false]
      exact ih
theorem r10_Right_l1 {l : List Item} (hl : RightP l) : ∀ (d i : Nat), l.length - i = d → i ≤ l.length → Ev (fun k => r10_Right.l1 k l i) true
  | 0, i, hd, hi => by
    obtain rfl : i = l.length := by omega
    refine Ev.step (fun k => r10_Right.l1.eq_2 (k := k) ..) ?_
    simp only [Int.lt_irrefl, if_false]
    exact Ev.now _
  | d + 1, i, hd, hi => by
    have hlt : i < l.length := by omega
    refine Ev.step (fun k => r10_Right.l1.eq_2 (k := k) ..) ?_
    have e1 : ((i : Int) < (l.length : Int)) = True := eq_true (by omega)
    have e2 : ((0 : Int) ≤ (i : Int)) = True := eq_true (by omega)
    simp only [e1, e2, if_true]
    have := r10_Right_l2 hl hlt (x := rd_T31 l i) rfl (r10_Right_l1 hl d (i + 1) (by omega) (by omega)) _ 0 rfl (by omega)
    rw [List.take_zero, List.filter_nil, addV_nil] at this
    exact this
theorem r10_Right_l0 {l : List Item} (hl : RightP l) : ∀ (d i : Nat), l.length - i = d → i ≤ l.length → Ev (fun k => r10_Right.l0 k l i) true
  | 0, i, hd, hi => by
    obtain rfl : i = l.length := by omega
    refine Ev.step (fun k => r10_Right.l0.eq_2 (k := k) ..) ?_
    simp only [Int.lt_irrefl, if_false]
    exact r10_Right_l1 hl _ 0 rfl (by omega)
  | d + 1, i, hd, hi => by
    have hlen := hl.len
    have hlt : i < l.length := by omega
    have ih := r10_Right_l0 hl d (i + 1) (by omega) (by omega)
    obtain ⟨h1, h2, _⟩ := (rightP_iff l).1 hl
    obtain ⟨ok, ho, hp⟩ := h2 i hlt
    generalize hx : rd_T31 l (i : Int) = x at ok ho hp
    have e1 : ((i : Int) < (l.length : Int)) = True := eq_true (by omega)
    have e2 : ((0 : Int) ≤ (i : Int)) = True := eq_true (by omega)
    have e3 : wrap64 ((i : Int) + 1) = ((i + 1 : Nat) : Int) := by rw [w64 (by omega) (by omega)]; rfl
    have n0 : r10_MayName.f x.f0 = some true := by rw [r10_MayName_eq]; exact congrArg some (decide_eq_true ⟨ok.name, ok.size⟩)
    have n1 : r10_MayVec.f x.f2.f0 x.f2.f1 x.f2.f2 = some true := by rw [r10_MayVec_eq]; exact congrArg some (decide_eq_true ok.lim)
    have n2 : r10_MayVec.f x.f3.f0 x.f3.f1 x.f3.f2 = some true := by rw [r10_MayVec_eq]; exact congrArg some (decide_eq_true ok.own)
    have n3 : r10_Le.f x.f4.f0 x.f4.f1 x.f4.f2 x.f2.f0 x.f2.f1 x.f2.f2 = some true := by rw [r10_Le_eq]; exact congrArg some (decide_eq_true ok.fit)
    have n4 : r10_MayVec.f x.f4.f0 x.f4.f1 x.f4.f2 = some true := by rw [r10_MayVec_eq]; exact congrArg some (decide_eq_true ok.sub)
    have v1 : (x.f5 < 1) = False := eq_false (by have := ok.ver; omega)
    have v2 : (x.f5 > 9007199254740992) = False := eq_false (by have := ok.ver; omega)
    refine Ev.step (fun k => r10_Right.l0.eq_2 (k := k) ..) ?_
    simp only [e1, e2, if_true, hx, n0, n1, n2, n3, n4, v1, v2, if_false, Option.bind_some, e3]
    have hpar : Ev (fun k => if x.f1.toList = ([] : List UInt8) then r10_Right.l0 k l ((i + 1 : Nat) : Int) else ((r10_Find.f k l x.f1).bind fun t9 => (if t9 < 0 then none else r10_Right.l0 k l ((i + 1 : Nat) : Int)))) true := by
      by_cases q : x.f1 = ⟨#[]⟩
      · exact Ev.congr (fun k => if_pos (nm_empty.2 q)) ih
      · refine Ev.congr (fun k => if_neg (fun z => q (nm_empty.1 z))) (Ev.bind (r10_Find_ev l x.f1 (by omega)) (Ev.congr (fun k => if_neg ?_) ih))
        rcases hp with z | z
        · exact absurd z q
        · have := fnd_ge.2 z; omega
    by_cases hi0 : (i : Int) > 0
    · have e4 : wrap64 ((i : Int) - 1) = (i : Int) - 1 := w64 (by omega) (by omega)
      have e5 : ((i : Int) > 0) = True := eq_true hi0
      have e6 : (0 ≤ (i : Int) - 1) = True := eq_true (by omega)
      have e7 : ((i : Int) - 1 < (l.length : Int)) = True := eq_true (by omega)
      have e8 : (Op.bytesLess (rd_T31 l ((i : Int) - 1)).f0.toList x.f0.toList = true) = True := eq_true (ho (by omega))
      simp only [e4, e5, e6, e7, e8, if_true]
      exact hpar
    · have e5 : ((i : Int) > 0) = False := eq_false hi0
      simp only [e5, if_false]
      exact hpar
theorem r10_Right_true {l : List Item} (hl : RightP l) : Ev (fun k => r10_Right.f k l) true := by
  have hlen := hl.len
  unfold r10_Right.f
  exact Ev.congr (fun k => if_neg (by omega)) (r10_Right_l0 hl _ 0 rfl (by omega))
end Go.Proofs.Ytcgefpklljclgaa.Print

namespace Go.Proofs.Ytcgefpklljclgaa.Print
open Go.RowKit Go.Proofs.YtcgefpklljclgaaW.PrintWords Go.Proofs.YtcgefpklljclgaaW.PrintLast Go.Proofs.YtcgefpklljclgaaW.PrintMore
set_option linter.unusedVariables false
set_option linter.unusedSimpArgs false
/-! letting in, as the program does it -/
theorem vec_Le_eq (a b d a' b' d' : Int) : vec_Le.f a b d a' b' d' = some (decide (LeP ⟨a, b, d⟩ ⟨a', b', d'⟩)) := by
  unfold vec_Le.f
  by_cases h0 : a ≤ a' <;> by_cases h1 : b ≤ b' <;> simp [h0, h1, leP_iff]
theorem leV_dec (a b : Vec) : leV a b = decide (LeP a b) := by
  have := (leV_eq a b).symm.trans (vec_Le_eq _ _ _ _ _ _)
  exact Option.some.inj this
theorem vec_May_eq (a b d : Int) : vec_May.f a b d = some (decide (MayP ⟨a, b, d⟩)) := by
  unfold vec_May.f vec_Most.f
  simp only [vec_Le_eq, Option.bind_some]
  by_cases h : LeP ⟨0, 0, 0⟩ ⟨a, b, d⟩
  · rw [if_pos (by exact decide_eq_true h)]
    congr 1
    rw [Bool.eq_iff_iff, decide_eq_true_iff, decide_eq_true_iff, mayP_iff, leP_iff]
    rw [leP_iff] at h
    constructor <;> intro k <;> omega
  · rw [if_neg (by simpa using h)]
    congr 1
    symm
    rw [decide_eq_false_iff_not, mayP_iff]
    rw [leP_iff] at h
    omega
theorem opAdd_eq {a v : Vec} (ha : MayP a) (hv : MayP v) : opAdd v a = vadd a v := by
  unfold opAdd
  rw [vec_Add2 ha hv]
  rfl
theorem found_up (l : List Item) (us : List ByteArray) (h : ∀ u ∈ us, ∃ x, look l u = some x) : found l us = true := by
  unfold found
  rw [List.all_eq_true]
  intro u hu
  have h0 := fnd_ge.2 (h u hu)
  have h1 := fnd_lt l u
  rw [tree_Find_eq, Option.getD_some]
  simp [h0, h1]
theorem admAllF_eq {l : List Item} (p : Item → Bool) (us : List ByteArray) (h : ∀ u ∈ us, ∃ x, look l u = some x) : admAllF p l us = some (us.all fun s => p (rd_T31 l (fnd l s))) := by
  unfold admAllF
  exact if_pos (found_up l us h)
theorem setAt_map {l : List Item} (hn : (l.map (·.f0)).Nodup) (f g : Item → Item) (hg : ∀ x, (g x).f0 = x.f0) {u : ByteArray} {x : Item} (h : look l u = some x) :
    setAt f (l.map g) (fnd l u) = l.map (fun z => if z.f0 = u then f (g z) else g z) := by
  have hlk : look (l.map g) u = some (g x) := by rw [look_map hg, h]; rfl
  have hn' : ((l.map g).map (·.f0)).Nodup := by rw [List.map_map, show ((fun x : Item => x.f0) ∘ g) = (fun x => x.f0) from funext hg]; exact hn
  obtain ⟨hx, hxu⟩ := look_mem h
  have h2 := set_at hn' hlk (f (g x))
  have h3 := fnd_rd hlk
  rw [fnd_map hg] at h2 h3
  unfold setAt
  rw [h3, h2, List.map_map]
  refine List.map_congr_left fun z hz => ?_
  simp only [Function.comp, hg]
  by_cases e : z.f0 = u
  · have : z = x := by
      have h4 := look_of_mem hn hz
      rw [e, h] at h4
      exact (Option.some.inj h4).symm
    rw [if_pos e, if_pos e, this]
  · rw [if_neg e, if_neg e]
def subM (op : Vec → Vec) (us : List ByteArray) (x : Item) : Item := if x.f0 ∈ us then subF op x else x
theorem subM_name (op : Vec → Vec) (us : List ByteArray) (x : Item) : (subM op us x).f0 = x.f0 := by unfold subM; split <;> rfl
theorem subs_map {l : List Item} (hn : (l.map (·.f0)).Nodup) (op : Vec → Vec) (us : List ByteArray) (hu : us.Nodup) (h : ∀ u ∈ us, ∃ x, look l u = some x) : subs op l us l = l.map (subM op us) := by
  have : ∀ i : Nat, i ≤ us.length → subs op l (us.take i) l = l.map (subM op (us.take i)) := by
    intro i
    induction i with
    | zero =>
      intro _
      show l = _
      rw [List.take_zero, show subM op [] = id from funext fun x => by simp [subM]]
      simp
    | succ i ih =>
      intro hi
      have hlt : i < us.length := by omega
      have hmem : rdOf ByteArray.empty us i ∈ us := by simp [rdOf, hlt]
      obtain ⟨x, hx⟩ := h _ hmem
      have hnot : rdOf ByteArray.empty us i ∉ us.take i := by
        rw [← List.take_append_drop i us, drop_cons hlt, List.nodup_append] at hu
        exact fun q => hu.2.2 _ q _ (by simp) rfl
      rw [subs_take op l us l i hlt, ih (by omega), tree_Find_eq, Option.getD_some, setAt_map hn _ _ (subM_name op _) hx]
      refine List.map_congr_left fun z hz => ?_
      by_cases e : z.f0 = rdOf ByteArray.empty us i
      · rw [if_pos e]
        have e1 : subM op (us.take i) z = z := by unfold subM; rw [if_neg (by rw [e]; exact hnot)]
        rw [e1]
        unfold subM
        rw [if_pos (by rw [take_snoc_ hlt, e]; simp)]
      · rw [if_neg e]
        unfold subM
        rw [take_snoc_ hlt]
        simp [e]
  have h2 := this us.length (Nat.le_refl _)
  rw [List.take_length] at h2
  exact h2
theorem slices_Clone_eq (l : List Item) (h : l.length < 1000000) : slices_Clone_Item.f l = some l := by
  unfold slices_Clone_Item.f; rw [if_pos (by omega)]
def chgF (op : Vec → Vec) (us : List ByteArray) (n : ByteArray) (x : Item) : Item := ⟨x.f0, x.f1, x.f2, if x.f0 = n then op x.f3 else x.f3, if x.f0 ∈ us then op x.f4 else x.f4, x.f5⟩
theorem changedF_eq {l : List Item} (hl : RightP l) (op : Vec → Vec) {n : ByteArray} {x : Item} (hx : look l n = some x) : changedF op l (up l n) = some (l.map (chgF op (up l n) n)) := by
  have hin : ∀ u ∈ up l n, ∃ x, look l u = some x := fun u hu => up_in hu
  have hhead : rdOf ByteArray.empty (up l n) 0 = n := by unfold up; rw [upGo_some hx]; rfl
  have hpos : 0 < (up l n).length := by have := up_self hx; exact List.length_pos_of_mem this
  have hlen := hl.len
  unfold changedF
  rw [if_pos ⟨found_up l _ hin, hpos⟩, slices_Clone_eq l (by omega)]
  simp only [Option.bind_some]
  rw [subs_map hl.nodup op _ (hl.chainAll n).nodup hin, hhead, tree_Find_eq, Option.getD_some, setAt_map hl.nodup _ _ (subM_name op _) hx]
  congr 1
  refine List.map_congr_left fun z hz => ?_
  unfold subM chgF ownF subF
  by_cases e : z.f0 = n
  · have hm : z.f0 ∈ up l n := by rw [e]; exact up_self hx
    simp [e] at hm ⊢
    simp [hm, e]
  · by_cases hm : z.f0 ∈ up l n <;> simp [e, hm]
theorem all_up {l : List Item} (hl : RightP l) (n : ByteArray) (p : Item → Bool) : ((up l n).all fun s => p (rd_T31 l (fnd l s))) = decide (∀ x ∈ l, x.f0 ∈ up l n → p x = true) := by
  rw [Bool.eq_iff_iff, decide_eq_true_iff, List.all_eq_true]
  constructor
  · intro h x hx hm
    have := h _ hm
    rwa [fnd_rd (hl.look hx)] at this
  · intro h s hs
    obtain ⟨x, hx⟩ := up_in hs
    obtain ⟨h1, rfl⟩ := look_mem hx
    rw [fnd_rd hx]
    exact h x h1 hs
theorem admit_Admit_ev {l : List Item} (hl : RightP l) (n : ByteArray) (v : Vec) : Ev (fun k => admit_Admit.f k l n v.f0 v.f1 v.f2) (admR l n v) := by
  have hlen := hl.len
  refine Ev.bind (tree_Up_ev l n (by omega)) ?_
  have hmv : vec_May.f v.f0 v.f1 v.f2 = some (decide (MayP v)) := vec_May_eq _ _ _
  refine Ev.congr (fun k => ?_) (Ev.now _)
  rw [hmv]
  simp only [Option.bind_some]
  unfold admR
  by_cases hv : MayP v
  · rw [if_pos (by exact decide_eq_true hv), if_neg (show ¬ ¬ MayP v from fun q => q hv)]
    cases hx : look l n with
    | none =>
      rw [if_pos (by rw [show up l n = [] from upGo_none hx _]; rfl), if_pos (show (none : Option Item).isNone = true from rfl)]
    | some x =>
      have hpos : 0 < (up l n).length := by have := up_self hx; exact List.length_pos_of_mem this
      rw [if_neg (by omega), if_neg (by simp), admAllF_eq _ _ (fun u hu => up_in hu), show ((up l n).all fun s => leV (opAdd ⟨v.f0, v.f1, v.f2⟩ (rd_T31 l (fnd l s)).f4) (rd_T31 l (fnd l s)).f2) = _ from all_up hl n (fun x => leV (opAdd ⟨v.f0, v.f1, v.f2⟩ x.f4) x.f2)]
      simp only [Option.bind_some]
      have e : (∀ y ∈ l, y.f0 ∈ up l n → leV (opAdd ⟨v.f0, v.f1, v.f2⟩ y.f4) y.f2 = true) ↔ (∀ y ∈ l, y.f0 ∈ up l n → LeP (vadd y.f4 v) y.f2) := by
        constructor <;> intro h y hy hm <;> have := h y hy hm
        · rw [opAdd_eq (v := ⟨v.f0, v.f1, v.f2⟩) (hl.ok y hy).sub hv, leV_dec, decide_eq_true_iff] at this
          exact this
        · rw [opAdd_eq (v := ⟨v.f0, v.f1, v.f2⟩) (hl.ok y hy).sub hv, leV_dec, decide_eq_true_iff]
          exact this
      by_cases hf : ∀ y ∈ l, y.f0 ∈ up l n → LeP (vadd y.f4 v) y.f2
      · rw [if_pos hf, if_pos (decide_eq_true (e.2 hf)), changedF_eq hl _ hx]
        simp only [Option.bind_some]
        congr 2
        unfold admL
        refine List.map_congr_left fun z hz => ?_
        unfold chgF admF
        rw [opAdd_eq (v := ⟨v.f0, v.f1, v.f2⟩) (hl.ok z hz).sub hv, opAdd_eq (v := ⟨v.f0, v.f1, v.f2⟩) (hl.ok z hz).own hv]
      · rw [if_neg hf, if_neg (fun q => hf (e.1 (of_decide_eq_true q)))]
  · rw [if_neg (by simpa using hv), if_pos hv]
/-! one tree and another -/
theorem r10_Same_l0 (l : List Item) (hl : l.length < 1000000) : ∀ (d i : Nat), l.length - i = d → i ≤ l.length → Ev (fun k => r10_SameItems.l0 k l l i) true
  | 0, i, hd, hi => by
    refine Ev.step (f := fun _ => some true) (fun k => ?_) (Ev.now _)
    simp only [r10_SameItems.l0]
    rw [if_neg (by omega)]
  | d + 1, i, hd, hi => by
    refine Ev.step (f := fun k => r10_SameItems.l0 k l l ((i + 1 : Nat) : Int)) (fun k => ?_) (r10_Same_l0 l hl d (i + 1) (by omega) (by omega))
    simp only [r10_SameItems.l0]
    rw [if_pos (by omega), if_pos (by omega), if_pos (by omega), if_neg (by simp), w64 (by omega) (by omega)]
    rfl
theorem r10_Same_refl (l : List Item) (hl : l.length < 1000000) : Ev (fun k => r10_SameItems.f k l l) true :=
  Ev.congr (fun k => if_pos rfl) (r10_Same_l0 l hl _ 0 rfl (by omega))
end Go.Proofs.Ytcgefpklljclgaa.Print

namespace Go.Proofs.Ytcgefpklljclgaa.Print
open Go.RowKit Go.Proofs.YtcgefpklljclgaaW.PrintWords Go.Proofs.YtcgefpklljclgaaW.PrintLast Go.Proofs.YtcgefpklljclgaaW.PrintMore
set_option linter.unusedVariables false
set_option linter.unusedSimpArgs false
/-! letting out: the document's answer, and the program's -/
theorem sub_wrap {a b : Vec} (ha : MayP a) (hb : MayP b) : (wrap64 (a.f0 - b.f0), wrap64 (a.f1 - b.f1), wrap64 (a.f2 - b.f2)) = ((vadd a (vneg b)).f0, (vadd a (vneg b)).f1, (vadd a (vneg b)).f2) := by
  have a0 := ha .cpu; have a1 := ha .mem; have a2 := ha .pods
  have b0 := hb .cpu; have b1 := hb .mem; have b2 := hb .pods
  simp only [Comp.of] at a0 a1 a2 b0 b1 b2
  rw [w64 (by omega) (by omega), w64 (by omega) (by omega), w64 (by omega) (by omega)]
  rfl
theorem r10_Sub_eq' {a b : Vec} (ha : MayP a) (hb : MayP b) : r10_Sub.f a.f0 a.f1 a.f2 b.f0 b.f1 b.f2 = some ((vadd a (vneg b)).f0, (vadd a (vneg b)).f1, (vadd a (vneg b)).f2) := by
  unfold r10_Sub.f; rw [sub_wrap ha hb]
theorem opSub_eq {a v : Vec} (ha : MayP a) (hv : MayP v) : opSub v a = vadd a (vneg v) := by
  have := sub_wrap ha hv
  simp only [Prod.mk.injEq] at this
  unfold opSub
  rw [this.1, this.2.1, this.2.2]
theorem r10_Release_l0 {l : List Item} (hl : RightP l) (n : ByteArray) {v : Vec} (hv : MayP v) (hin : ∃ x, look l n = some x) : ∀ (d i : Nat), (up l n).length - i = d → i ≤ (up l n).length →
    Ev (fun k => r10_Release.l0 k n (up l n) (l.map (admS ((up l n).take i) (vneg v))) i v.f0 v.f1 v.f2) (relL l n v, 0)
  | 0, i, hd, hi => by
    obtain rfl : i = (up l n).length := by omega
    rw [List.take_length]
    obtain ⟨x, hx⟩ := hin
    obtain ⟨hm, hxn⟩ := look_mem hx
    have hlk : look (l.map (admS (up l n) (vneg v))) n = some (admS (up l n) (vneg v) x) := by rw [look_admS, hx]; rfl
    have h0 : 0 ≤ fnd l n := fnd_ge.2 ⟨x, hx⟩
    have h1 : fnd l n < l.length := fnd_lt l n
    obtain ⟨K, hK⟩ := r10_Find_ev (l.map (admS (up l n) (vneg v))) n (by rw [List.length_map]; have := hl.len; omega)
    dsimp only at hK
    refine ⟨K + 1, fun k hk => ?_⟩
    obtain ⟨k, rfl⟩ : ∃ m, k = m + 1 := ⟨k - 1, by omega⟩
    have hrd := fnd_rd hlk
    rw [fnd_admS] at hrd
    simp only [r10_Release.l0]
    rw [if_neg (by omega), hK k (by omega), fnd_admS]
    simp only [Option.bind_some]
    rw [if_pos h0, if_pos (by rw [List.length_map]; omega), hrd, r10_Sub_eq' (a := (admS (up l n) (vneg v) x).f3) (hl.ok x hm).own hv]
    simp only [Option.bind_some]
    have hset := set_at (nodup_admS (us := up l n) (v := vneg v) hl.nodup) hlk
    rw [fnd_admS] at hset
    rw [hset, List.map_map]
    congr 2
    unfold relL admL
    refine List.map_congr_left fun z hz => ?_
    simp only [Function.comp, admF]
    by_cases e : z.f0 = n
    · obtain rfl : z = x := hl.eq_of hz hm (e.trans hxn.symm)
      rw [if_pos (by exact e), if_pos e]
      rfl
    · rw [if_neg (by exact e), if_neg e]
      rfl
  | d + 1, i, hd, hi => by
    have hlt : i < (up l n).length := by omega
    have hc := hl.chainAll n
    have hnd := hc.nodup
    have hu : rdOf ByteArray.empty (up l n) i ∈ up l n := by simp [rdOf, hlt]
    obtain ⟨x, hx⟩ := hc.mem_look hu
    obtain ⟨hm, hxn⟩ := look_mem hx
    have hnot : x.f0 ∉ (up l n).take i := by
      rw [hxn]
      rw [← List.take_append_drop i (up l n), drop_cons hlt, List.nodup_append] at hnd
      exact fun q => hnd.2.2 _ q _ (by simp) rfl
    generalize hU : rdOf ByteArray.empty (up l n) i = u at *
    have hlk : look (l.map (admS ((up l n).take i) (vneg v))) u = some (admS ((up l n).take i) (vneg v) x) := by rw [look_admS, hx]; rfl
    have hsame : admS ((up l n).take i) (vneg v) x = x := by unfold admS; rw [if_neg hnot]
    rw [hsame] at hlk
    have h0 : 0 ≤ fnd l u := fnd_ge.2 ⟨x, hx⟩
    have h1 : fnd l u < l.length := fnd_lt l u
    have hrd := fnd_rd hlk
    have hset := set_at (nodup_admS (us := (up l n).take i) (v := vneg v) hl.nodup) hlk
    rw [fnd_admS] at hrd
    rw [fnd_admS] at hset
    obtain ⟨K, hK⟩ := r10_Find_ev (l.map (admS ((up l n).take i) (vneg v))) u (by rw [List.length_map]; have := hl.len; omega)
    obtain ⟨K', hK'⟩ := r10_Release_l0 hl n hv hin d (i + 1) (by omega) (by omega)
    dsimp only at hK hK'
    refine ⟨K + K' + 1, fun k hk => ?_⟩
    obtain ⟨k, rfl⟩ : ∃ m, k = m + 1 := ⟨k - 1, by omega⟩
    have hup : (up l n).length ≤ l.length := hc.len
    have hlen := hl.len
    simp only [r10_Release.l0]
    rw [if_pos (by omega), if_pos (by omega), hU, hK k (by omega), fnd_admS]
    simp only [Option.bind_some]
    rw [if_pos h0, if_pos (by rw [List.length_map]; omega), hrd, r10_Sub_eq' (a := x.f4) (hl.ok x hm).sub hv]
    simp only [Option.bind_some]
    rw [hset, List.map_map]
    have hnew : (l.map ((fun z : Item => if z.f0 = u then (⟨x.f0, x.f1, ⟨x.f2.f0, x.f2.f1, x.f2.f2⟩, ⟨x.f3.f0, x.f3.f1, x.f3.f2⟩, ⟨(vadd x.f4 (vneg v)).f0, (vadd x.f4 (vneg v)).f1, (vadd x.f4 (vneg v)).f2⟩, x.f5⟩ : Item) else z) ∘ admS ((up l n).take i) (vneg v))) = l.map (admS ((up l n).take (i + 1)) (vneg v)) := by
      refine List.map_congr_left fun z hz => ?_
      simp only [Function.comp]
      rw [take_snoc_ hlt, hU]
      by_cases e : z.f0 = u
      · obtain rfl : z = x := hl.eq_of hz hm (e.trans hxn.symm)
        rw [if_pos (by exact e)]
        unfold admS
        rw [if_pos (by simp [e])]
      · rw [if_neg (by exact e)]
        unfold admS
        simp [e]
    rw [hnew, w64 (by omega) (by omega)]
    exact hK' k (by omega)
theorem r10_Release_ev {l : List Item} (hl : RightP l) (n : ByteArray) (v : Vec) : Ev (fun k => r10_Release.f k l n v.f0 v.f1 v.f2) (relR l n v) := by
  have hlen := hl.len
  refine Ev.bind (r10_Up_ev l n (by omega)) ?_
  have hmv : r10_MayVec.f v.f0 v.f1 v.f2 = some (decide (MayP v)) := r10_MayVec_eq _ _ _
  unfold relR
  by_cases hv : MayP v
  · rw [if_neg (by simpa using hv)]
    cases hx : look l n with
    | none =>
      rw [if_pos (show (none : Option Item).isNone = true from rfl)]
      refine Ev.congr (fun k => ?_) (Ev.now _)
      rw [hmv]
      simp only [Option.bind_some]
      rw [if_pos (by exact decide_eq_true hv), show up l n = [] from upGo_none hx _]
      rfl
    | some x =>
      rw [if_neg (by simp)]
      have hz : ((up l n).length : Int) ≠ 0 := by have := up_self hx; intro q; rw [List.length_eq_zero_iff.1 (by omega : (up l n).length = 0)] at this; cases this
      have h0 := fnd_ge.2 ⟨x, hx⟩
      have h1 := fnd_lt l n
      have e1 : (decide (MayP v) = true) = True := eq_true (decide_eq_true hv)
      have e2 : (((up l n).length : Int) = 0) = False := eq_false hz
      have e3 : (0 ≤ fnd l n) = True := eq_true h0
      have e4 : (fnd l n < (l.length : Int)) = True := eq_true h1
      have e5 : r10_Le.f v.f0 v.f1 v.f2 x.f3.f0 x.f3.f1 x.f3.f2 = some (decide (LeP v x.f3)) := r10_Le_eq _ _ _ _ _ _
      simp only [hmv, Option.bind_some, e1, if_true, e2, if_false]
      refine Ev.bind (r10_Find_ev l n (by omega)) ?_
      simp only [e3, e4, if_true, fnd_rd hx, e5, Option.bind_some, r10_copied_eq l (by omega)]
      by_cases hle : LeP v x.f3
      · rw [if_pos hle]
        have h := r10_Release_l0 hl n hv ⟨x, hx⟩ _ 0 rfl (by omega)
        rw [List.take_zero, show l.map (admS [] (vneg v)) = l from by rw [show admS [] (vneg v) = id from by funext z; simp [admS]]; simp] at h
        exact Ev.congr (fun k => if_pos (decide_eq_true hle)) h
      · rw [if_neg hle]
        exact Ev.congr (fun k => if_neg (by simpa using hle)) (Ev.now _)
  · rw [if_pos hv]
    refine Ev.congr (fun k => ?_) (Ev.now _)
    rw [hmv]
    simp only [Option.bind_some]
    rw [if_neg (by simpa using hv)]
    rfl
theorem admit_Release_ev {l : List Item} (hl : RightP l) (n : ByteArray) (v : Vec) : Ev (fun k => admit_Release.f k l n v.f0 v.f1 v.f2) (relR l n v) := by
  have hlen := hl.len
  refine Ev.bind (tree_Up_ev l n (by omega)) ?_
  have hmv : vec_May.f v.f0 v.f1 v.f2 = some (decide (MayP v)) := vec_May_eq _ _ _
  refine Ev.congr (fun k => ?_) (Ev.now _)
  rw [hmv]
  simp only [Option.bind_some]
  unfold relR
  by_cases hv : MayP v
  · rw [if_pos (by exact decide_eq_true hv), if_neg (show ¬ ¬ MayP v from fun q => q hv)]
    cases hx : look l n with
    | none =>
      rw [if_pos (by rw [show up l n = [] from upGo_none hx _]; rfl), if_pos (show (none : Option Item).isNone = true from rfl)]
    | some x =>
      have hpos : 0 < (up l n).length := by have := up_self hx; exact List.length_pos_of_mem this
      have h0 := fnd_ge.2 ⟨x, hx⟩
      have h1 := fnd_lt l n
      rw [if_neg (by omega), if_neg (by simp), tree_Find_eq]
      simp only [Option.bind_some]
      rw [if_pos ⟨h0, h1⟩, fnd_rd hx, leV_dec]
      by_cases hle : LeP v x.f3
      · rw [if_pos hle, if_pos (by exact decide_eq_true hle), changedF_eq hl _ hx]
        simp only [Option.bind_some]
        congr 2
        unfold relL admL
        refine List.map_congr_left fun z hz => ?_
        unfold chgF admF
        rw [opSub_eq (v := ⟨v.f0, v.f1, v.f2⟩) (hl.ok z hz).sub hv, opSub_eq (v := ⟨v.f0, v.f1, v.f2⟩) (hl.ok z hz).own hv]
      · rw [if_neg hle, if_neg (by simpa using hle)]
  · rw [if_neg (by simpa using hv), if_pos hv]
end Go.Proofs.Ytcgefpklljclgaa.Print

namespace Go.Proofs.Ytcgefpklljclgaa.Print
open Go.RowKit Go.Proofs.YtcgefpklljclgaaW.PrintWords Go.Proofs.YtcgefpklljclgaaW.PrintLast Go.Proofs.YtcgefpklljclgaaW.PrintMore
set_option linter.unusedVariables false
set_option linter.unusedSimpArgs false
theorem m14_awake_ev : Ev (fun k => law14_awake.f k) true := Ev.of (g := fun k => law14_awake.f k) (fun k => law14_awake.mono k) (k := 20) (by kernel_rfl)
theorem m14_awake_bind : Ev (fun k => (law14_awake.f k).bind fun t => some t) true := Ev.bind m14_awake_ev (Ev.now _)
theorem m14_num (e : Int) : law1_Num.f e = some e := rfl
theorem made14_j2 {x1 : List Int} {l : List Item} {i : Nat} (hi : i ≤ 1000) (R : List Item × Int) (h0 : R.2 = 0 → RightP R.1) (hR : R.1.length < 1000000)
    (hl : RightP l) (rest : ∀ l', RightP l' → Ev (fun k => law14_AdmitMade.l0 k x1 l' ((i + 2 : Nat) : Int)) true) : Ev (fun k => law14_AdmitMade.j2 k x1 l i R.1 R.2 R.1 R.2) true := by
  have e : wrap64 ((i : Int) + 2) = ((i + 2 : Nat) : Int) := by rw [w64 (by omega) (by omega)]; rfl
  refine Ev.step (fun k => law14_AdmitMade.j2.eq_2 (k := k) ..) ?_
  refine Ev.bind (r10_Same_refl R.1 hR) ?_
  simp only [if_true, m14_num, Option.bind_some]
  by_cases q : R.2 = 0
  · have q' : (R.2 = 0) = True := eq_true q
    simp only [q', if_true]
    refine Ev.bind (r10_Right_true (h0 q)) ?_
    refine Ev.step (fun k => law14_AdmitMade.j3.eq_2 (k := k) ..) ?_
    simp only [Bool.not_true, Bool.false_eq_true, if_false, q', if_true, e]
    exact rest _ (h0 q)
  · have q' : (R.2 = 0) = False := eq_false q
    simp only [q', if_false]
    refine Ev.step (fun k => law14_AdmitMade.j3.eq_2 (k := k) ..) ?_
    simp only [Bool.false_eq_true, if_false, q', e]
    exact rest _ hl
theorem admR_len {l : List Item} (hl : RightP l) (n : ByteArray) (v : Vec) : (admR l n v).1.length < 1000000 := by
  have hlen := hl.len
  unfold admR
  split
  · simp
  split
  · simp
  split
  · unfold admL; simp; omega
  · simp
theorem relR_len {l : List Item} (hl : RightP l) (n : ByteArray) (v : Vec) : (relR l n v).1.length < 1000000 := by
  have hlen := hl.len
  unfold relR
  split
  · simp
  split
  · simp
  split
  · unfold relL admL; simp; omega
  · simp
theorem made14_l0 {x1 : List Int} (hs : x1.length ≤ 60) : ∀ (d i : Nat) (l : List Item), RightP l → x1.length - i ≤ d → i ≤ x1.length + 2 → Ev (fun k => law14_AdmitMade.l0 k x1 l i) true := by
  intro d
  induction d with
  | zero =>
    intro i l hl hd hi
    have e0 : wrap64 ((i : Int) + 1) = ((i + 1 : Nat) : Int) := by rw [w64 (by omega) (by omega)]; rfl
    have e1 : (((i + 1 : Nat) : Int) < (x1.length : Int)) = False := eq_false (by omega)
    refine Ev.step (fun k => law14_AdmitMade.l0.eq_2 (k := k) ..) ?_
    simp only [e0, e1, if_false]
    exact m14_awake_bind
  | succ d ih =>
    intro i l hl hd hi
    have e0 : wrap64 ((i : Int) + 1) = ((i + 1 : Nat) : Int) := by rw [w64 (by omega) (by omega)]; rfl
    refine Ev.step (fun k => law14_AdmitMade.l0.eq_2 (k := k) ..) ?_
    by_cases h : i + 1 < x1.length
    · have e1 : (((i + 1 : Nat) : Int) < (x1.length : Int)) = True := eq_true (by omega)
      have e2 : ((0 : Int) ≤ (i : Int)) = True := eq_true (by omega)
      have e3 : ((i : Int) < (x1.length : Int)) = True := eq_true (by omega)
      have e4 : ((0 : Int) ≤ ((i + 1 : Nat) : Int)) = True := eq_true (by omega)
      simp only [e0, e1, e2, e3, e4, if_true, Option.bind_some]
      generalize strOfNums [(97 + Int.tmod (rd x1 (i : Int)) 26) % 256] = n
      generalize Int.tmod (wrap64 (Int.tdiv (wrap64 (rd x1 ((i + 1 : Nat) : Int))) 2)) 40 = a
      generalize wrap64 (Int.tdiv (wrap64 (Int.tdiv (wrap64 (rd x1 ((i + 1 : Nat) : Int))) 2)) 3) = b
      generalize Int.tmod (wrap64 (Int.tdiv (wrap64 (rd x1 ((i + 1 : Nat) : Int))) 2)) 7 = c
      have rest : ∀ l', RightP l' → Ev (fun k => law14_AdmitMade.l0 k x1 l' ((i + 2 : Nat) : Int)) true := fun l' hl' => ih (i + 2) l' hl' (by omega) (by omega)
      refine Ev.bind (admit_Admit_ev hl n ⟨a, b, c⟩) (Ev.bind (r10_Admit_ev hl n ⟨a, b, c⟩) ?_)
      by_cases hodd : Int.tmod (rd x1 ((i + 1 : Nat) : Int)) 2 > 0
      · refine Ev.congr (fun k => if_pos hodd) ?_
        refine Ev.bind (admit_Release_ev hl n ⟨a, b, c⟩) (Ev.bind (r10_Release_ev hl n ⟨a, b, c⟩) ?_)
        exact made14_j2 (by omega) (relR l n ⟨a, b, c⟩) (fun q => by rw [(relR_right hl q).1]; exact (relR_right hl q).2.1) (relR_len hl n _) hl rest
      · refine Ev.congr (fun k => if_neg hodd) ?_
        exact made14_j2 (by omega) (admR l n ⟨a, b, c⟩) (fun q => by rw [(admR_right hl q).1]; exact (admR_right hl q).2.1) (admR_len hl n _) hl rest
    · have e1 : (((i + 1 : Nat) : Int) < (x1.length : Int)) = False := eq_false (by omega)
      simp only [e0, e1, if_false]
      exact m14_awake_bind
end Go.Proofs.Ytcgefpklljclgaa.Print
namespace Go.Proofs.Ytcgefpklljclgaa.Pure
open Go.RowKit Go.Proofs.Ytcgefpklljclgaa.Print Go.Proofs.YtcgefpklljclgaaW.PrintWords Go.Proofs.YtcgefpklljclgaaW.PrintLast
set_option linter.unusedVariables false
set_option linter.unusedSimpArgs false
theorem AdmitMade : law14_AdmitMade.Pure := by
  intro l0 l1 hm hs hw hm1 hs1 hw1
  unfold law14_AdmitMade.f
  have jtrue : Ev (fun k => law14_AdmitMade.j0 k l0 l1 true) true := by
    refine Ev.step (fun k => law14_AdmitMade.j0.eq_2 (k := k) ..) ?_
    simp only [if_true]
    exact m14_awake_bind
  by_cases h90 : (l0.length : Int) > 90
  · exact Ev.rounds (Ev.congr (fun k => if_pos h90) jtrue)
  refine Ev.rounds (Ev.congr (fun k => if_neg h90) ?_)
  by_cases h60 : (l1.length : Int) > 60
  · rw [decide_eq_true h60]; exact jtrue
  rw [decide_eq_false h60]
  obtain ⟨l, hlev, hM⟩ := made_all (ns := l0) (fun x hx => u8_bd (hw x hx)) (by omega)
  refine Ev.step (fun k => law14_AdmitMade.j0.eq_2 (k := k) ..) ?_
  simp only [Bool.false_eq_true, if_false]
  exact Ev.bind hlev (made14_l0 (by omega) l1.length 0 l hM.right (by omega) (by omega))
end Go.Proofs.Ytcgefpklljclgaa.Pure

namespace Go.Proofs.Ytcgefpklljclgaa.Head
/-- the translation's head, sign by sign -/
def signs : List Char := [Char.ofNat 104, Char.ofNat 97, Char.ofNat 114, Char.ofNat 110, Char.ofNat 101, Char.ofNat 115, Char.ofNat 115, Char.ofNat 32, Char.ofNat 101, Char.ofNat 57, Char.ofNat 98, Char.ofNat 52, Char.ofNat 101, Char.ofNat 102, Char.ofNat 52, Char.ofNat 49, Char.ofNat 56, Char.ofNat 50, Char.ofNat 56, Char.ofNat 101, Char.ofNat 102, Char.ofNat 50, Char.ofNat 55, Char.ofNat 102, Char.ofNat 51, Char.ofNat 55, Char.ofNat 102, Char.ofNat 48, Char.ofNat 53, Char.ofNat 54, Char.ofNat 50, Char.ofNat 55, Char.ofNat 56, Char.ofNat 50, Char.ofNat 54, Char.ofNat 101, Char.ofNat 101, Char.ofNat 100, Char.ofNat 101, Char.ofNat 57, Char.ofNat 53, Char.ofNat 99, Char.ofNat 56, Char.ofNat 98, Char.ofNat 55, Char.ofNat 57, Char.ofNat 99, Char.ofNat 100, Char.ofNat 98, Char.ofNat 99, Char.ofNat 52, Char.ofNat 99, Char.ofNat 49, Char.ofNat 100, Char.ofNat 54, Char.ofNat 49, Char.ofNat 98, Char.ofNat 101, Char.ofNat 98, Char.ofNat 55, Char.ofNat 57, Char.ofNat 55, Char.ofNat 52, Char.ofNat 102, Char.ofNat 49, Char.ofNat 51, Char.ofNat 53, Char.ofNat 99, Char.ofNat 97, Char.ofNat 49, Char.ofNat 48, Char.ofNat 51, Char.ofNat 32, Char.ofNat 99, Char.ofNat 117, Char.ofNat 116, Char.ofNat 32, Char.ofNat 97, Char.ofNat 116, Char.ofNat 32, Char.ofNat 100, Char.ofNat 111, Char.ofNat 111, Char.ofNat 114, Char.ofNat 107, Char.ofNat 101, Char.ofNat 101, Char.ofNat 112, Char.ofNat 101, Char.ofNat 114, Char.ofNat 47, Char.ofNat 100, Char.ofNat 111, Char.ofNat 111, Char.ofNat 114, Char.ofNat 107, Char.ofNat 101, Char.ofNat 101, Char.ofNat 112, Char.ofNat 101, Char.ofNat 114, Char.ofNat 108, Char.ofNat 97, Char.ofNat 119, Char.ofNat 49, Char.ofNat 51, Char.ofNat 46, Char.ofNat 82, Char.ofNat 111, Char.ofNat 111, Char.ofNat 109, Char.ofNat 85, Char.ofNat 112, Char.ofNat 32, Char.ofNat 100, Char.ofNat 111, Char.ofNat 111, Char.ofNat 114, Char.ofNat 107, Char.ofNat 101, Char.ofNat 101, Char.ofNat 112, Char.ofNat 101, Char.ofNat 114, Char.ofNat 47, Char.ofNat 100, Char.ofNat 111, Char.ofNat 111, Char.ofNat 114, Char.ofNat 107, Char.ofNat 101, Char.ofNat 101, Char.ofNat 112, Char.ofNat 101, Char.ofNat 114, Char.ofNat 108, Char.ofNat 97, Char.ofNat 119, Char.ofNat 49, Char.ofNat 55, Char.ofNat 46, Char.ofNat 68, Char.ofNat 114, Char.ofNat 105, Char.ofNat 102, Char.ofNat 116, Char.ofNat 65, Char.ofNat 108, Char.ofNat 108, Char.ofNat 32, Char.ofNat 100, Char.ofNat 111, Char.ofNat 111, Char.ofNat 114, Char.ofNat 107, Char.ofNat 101, Char.ofNat 101, Char.ofNat 112, Char.ofNat 101, Char.ofNat 114, Char.ofNat 47, Char.ofNat 100, Char.ofNat 111, Char.ofNat 111, Char.ofNat 114, Char.ofNat 107, Char.ofNat 101, Char.ofNat 101, Char.ofNat 112, Char.ofNat 101, Char.ofNat 114, Char.ofNat 108, Char.ofNat 97, Char.ofNat 119, Char.ofNat 49, Char.ofNat 55, Char.ofNat 46, Char.ofNat 68, Char.ofNat 114, Char.ofNat 105, Char.ofNat 102, Char.ofNat 116, Char.ofNat 84, Char.ofNat 101, Char.ofNat 108, Char.ofNat 108, Char.ofNat 115, Char.ofNat 32, Char.ofNat 100, Char.ofNat 111, Char.ofNat 111, Char.ofNat 114, Char.ofNat 107, Char.ofNat 101, Char.ofNat 101, Char.ofNat 112, Char.ofNat 101, Char.ofNat 114, Char.ofNat 47, Char.ofNat 100, Char.ofNat 111, Char.ofNat 111, Char.ofNat 114, Char.ofNat 107, Char.ofNat 101, Char.ofNat 101, Char.ofNat 112, Char.ofNat 101, Char.ofNat 114, Char.ofNat 108, Char.ofNat 97, Char.ofNat 119, Char.ofNat 50, Char.ofNat 48, Char.ofNat 46, Char.ofNat 69, Char.ofNat 102, Char.ofNat 102, Char.ofNat 101, Char.ofNat 99, Char.ofNat 116, Char.ofNat 65, Char.ofNat 108, Char.ofNat 108, Char.ofNat 32, Char.ofNat 100, Char.ofNat 111, Char.ofNat 111, Char.ofNat 114, Char.ofNat 107, Char.ofNat 101, Char.ofNat 101, Char.ofNat 112, Char.ofNat 101, Char.ofNat 114, Char.ofNat 47, Char.ofNat 100, Char.ofNat 111, Char.ofNat 111, Char.ofNat 114, Char.ofNat 107, Char.ofNat 101, Char.ofNat 101, Char.ofNat 112, Char.ofNat 101, Char.ofNat 114, Char.ofNat 108, Char.ofNat 97, Char.ofNat 119, Char.ofNat 50, Char.ofNat 48, Char.ofNat 46, Char.ofNat 69, Char.ofNat 102, Char.ofNat 102, Char.ofNat 101, Char.ofNat 99, Char.ofNat 116, Char.ofNat 77, Char.ofNat 97, Char.ofNat 100, Char.ofNat 101, Char.ofNat 32, Char.ofNat 100, Char.ofNat 111, Char.ofNat 111, Char.ofNat 114, Char.ofNat 107, Char.ofNat 101, Char.ofNat 101, Char.ofNat 112, Char.ofNat 101, Char.ofNat 114, Char.ofNat 47, Char.ofNat 100, Char.ofNat 111, Char.ofNat 111, Char.ofNat 114, Char.ofNat 107, Char.ofNat 101, Char.ofNat 101, Char.ofNat 112, Char.ofNat 101, Char.ofNat 114, Char.ofNat 108, Char.ofNat 97, Char.ofNat 119, Char.ofNat 50, Char.ofNat 48, Char.ofNat 46, Char.ofNat 69, Char.ofNat 102, Char.ofNat 102, Char.ofNat 101, Char.ofNat 99, Char.ofNat 116, Char.ofNat 68, Char.ofNat 111, Char.ofNat 110, Char.ofNat 101, Char.ofNat 32, Char.ofNat 100, Char.ofNat 111, Char.ofNat 111, Char.ofNat 114, Char.ofNat 107, Char.ofNat 101, Char.ofNat 101, Char.ofNat 112, Char.ofNat 101, Char.ofNat 114, Char.ofNat 47, Char.ofNat 100, Char.ofNat 111, Char.ofNat 111, Char.ofNat 114, Char.ofNat 107, Char.ofNat 101, Char.ofNat 101, Char.ofNat 112, Char.ofNat 101, Char.ofNat 114, Char.ofNat 108, Char.ofNat 97, Char.ofNat 119, Char.ofNat 49, Char.ofNat 52, Char.ofNat 46, Char.ofNat 65, Char.ofNat 100, Char.ofNat 109, Char.ofNat 105, Char.ofNat 116, Char.ofNat 84, Char.ofNat 119, Char.ofNat 105, Char.ofNat 99, Char.ofNat 101, Char.ofNat 32, Char.ofNat 100, Char.ofNat 111, Char.ofNat 111, Char.ofNat 114, Char.ofNat 107, Char.ofNat 101, Char.ofNat 101, Char.ofNat 112, Char.ofNat 101, Char.ofNat 114, Char.ofNat 47, Char.ofNat 100, Char.ofNat 111, Char.ofNat 111, Char.ofNat 114, Char.ofNat 107, Char.ofNat 101, Char.ofNat 101, Char.ofNat 112, Char.ofNat 101, Char.ofNat 114, Char.ofNat 108, Char.ofNat 97, Char.ofNat 119, Char.ofNat 49, Char.ofNat 51, Char.ofNat 46, Char.ofNat 82, Char.ofNat 111, Char.ofNat 111, Char.ofNat 109, Char.ofNat 70, Char.ofNat 105, Char.ofNat 116, Char.ofNat 115, Char.ofNat 32, Char.ofNat 100, Char.ofNat 111, Char.ofNat 111, Char.ofNat 114, Char.ofNat 107, Char.ofNat 101, Char.ofNat 101, Char.ofNat 112, Char.ofNat 101, Char.ofNat 114, Char.ofNat 47, Char.ofNat 100, Char.ofNat 111, Char.ofNat 111, Char.ofNat 114, Char.ofNat 107, Char.ofNat 101, Char.ofNat 101, Char.ofNat 112, Char.ofNat 101, Char.ofNat 114, Char.ofNat 108, Char.ofNat 97, Char.ofNat 119, Char.ofNat 49, Char.ofNat 50, Char.ofNat 46, Char.ofNat 84, Char.ofNat 114, Char.ofNat 101, Char.ofNat 101, Char.ofNat 65, Char.ofNat 108, Char.ofNat 108, Char.ofNat 32, Char.ofNat 100, Char.ofNat 111, Char.ofNat 111, Char.ofNat 114, Char.ofNat 107, Char.ofNat 101, Char.ofNat 101, Char.ofNat 112, Char.ofNat 101, Char.ofNat 114, Char.ofNat 47, Char.ofNat 100, Char.ofNat 111, Char.ofNat 111, Char.ofNat 114, Char.ofNat 107, Char.ofNat 101, Char.ofNat 101, Char.ofNat 112, Char.ofNat 101, Char.ofNat 114, Char.ofNat 108, Char.ofNat 97, Char.ofNat 119, Char.ofNat 49, Char.ofNat 50, Char.ofNat 46, Char.ofNat 84, Char.ofNat 114, Char.ofNat 101, Char.ofNat 101, Char.ofNat 77, Char.ofNat 97, Char.ofNat 100, Char.ofNat 101, Char.ofNat 32, Char.ofNat 100, Char.ofNat 111, Char.ofNat 111, Char.ofNat 114, Char.ofNat 107, Char.ofNat 101, Char.ofNat 101, Char.ofNat 112, Char.ofNat 101, Char.ofNat 114, Char.ofNat 47, Char.ofNat 100, Char.ofNat 111, Char.ofNat 111, Char.ofNat 114, Char.ofNat 107, Char.ofNat 101, Char.ofNat 101, Char.ofNat 112, Char.ofNat 101, Char.ofNat 114, Char.ofNat 108, Char.ofNat 97, Char.ofNat 119, Char.ofNat 49, Char.ofNat 50, Char.ofNat 46, Char.ofNat 84, Char.ofNat 114, Char.ofNat 101, Char.ofNat 101, Char.ofNat 83, Char.ofNat 117, Char.ofNat 109, Char.ofNat 115, Char.ofNat 32, Char.ofNat 100, Char.ofNat 111, Char.ofNat 111, Char.ofNat 114, Char.ofNat 107, Char.ofNat 101, Char.ofNat 101, Char.ofNat 112, Char.ofNat 101, Char.ofNat 114, Char.ofNat 47, Char.ofNat 100, Char.ofNat 111, Char.ofNat 111, Char.ofNat 114, Char.ofNat 107, Char.ofNat 101, Char.ofNat 101, Char.ofNat 112, Char.ofNat 101, Char.ofNat 114, Char.ofNat 108, Char.ofNat 97, Char.ofNat 119, Char.ofNat 49, Char.ofNat 50, Char.ofNat 46, Char.ofNat 84, Char.ofNat 114, Char.ofNat 101, Char.ofNat 101, Char.ofNat 66, Char.ofNat 101, Char.ofNat 108, Char.ofNat 111, Char.ofNat 119, Char.ofNat 32, Char.ofNat 100, Char.ofNat 111, Char.ofNat 111, Char.ofNat 114, Char.ofNat 107, Char.ofNat 101, Char.ofNat 101, Char.ofNat 112, Char.ofNat 101, Char.ofNat 114, Char.ofNat 47, Char.ofNat 100, Char.ofNat 111, Char.ofNat 111, Char.ofNat 114, Char.ofNat 107, Char.ofNat 101, Char.ofNat 101, Char.ofNat 112, Char.ofNat 101, Char.ofNat 114, Char.ofNat 108, Char.ofNat 97, Char.ofNat 119, Char.ofNat 49, Char.ofNat 51, Char.ofNat 46, Char.ofNat 82, Char.ofNat 111, Char.ofNat 111, Char.ofNat 109, Char.ofNat 83, Char.ofNat 104, Char.ofNat 97, Char.ofNat 114, Char.ofNat 101, Char.ofNat 115, Char.ofNat 32, Char.ofNat 100, Char.ofNat 111, Char.ofNat 111, Char.ofNat 114, Char.ofNat 107, Char.ofNat 101, Char.ofNat 101, Char.ofNat 112, Char.ofNat 101, Char.ofNat 114, Char.ofNat 47, Char.ofNat 100, Char.ofNat 111, Char.ofNat 111, Char.ofNat 114, Char.ofNat 107, Char.ofNat 101, Char.ofNat 101, Char.ofNat 112, Char.ofNat 101, Char.ofNat 114, Char.ofNat 108, Char.ofNat 97, Char.ofNat 119, Char.ofNat 49, Char.ofNat 52, Char.ofNat 46, Char.ofNat 65, Char.ofNat 100, Char.ofNat 109, Char.ofNat 105, Char.ofNat 116, Char.ofNat 65, Char.ofNat 108, Char.ofNat 108, Char.ofNat 32, Char.ofNat 100, Char.ofNat 111, Char.ofNat 111, Char.ofNat 114, Char.ofNat 107, Char.ofNat 101, Char.ofNat 101, Char.ofNat 112, Char.ofNat 101, Char.ofNat 114, Char.ofNat 47, Char.ofNat 100, Char.ofNat 111, Char.ofNat 111, Char.ofNat 114, Char.ofNat 107, Char.ofNat 101, Char.ofNat 101, Char.ofNat 112, Char.ofNat 101, Char.ofNat 114, Char.ofNat 108, Char.ofNat 97, Char.ofNat 119, Char.ofNat 49, Char.ofNat 52, Char.ofNat 46, Char.ofNat 65, Char.ofNat 100, Char.ofNat 109, Char.ofNat 105, Char.ofNat 116, Char.ofNat 77, Char.ofNat 97, Char.ofNat 100, Char.ofNat 101, Char.ofNat 32, Char.ofNat 100, Char.ofNat 111, Char.ofNat 111, Char.ofNat 114, Char.ofNat 107, Char.ofNat 101, Char.ofNat 101, Char.ofNat 112, Char.ofNat 101, Char.ofNat 114, Char.ofNat 47, Char.ofNat 100, Char.ofNat 111, Char.ofNat 111, Char.ofNat 114, Char.ofNat 107, Char.ofNat 101, Char.ofNat 101, Char.ofNat 112, Char.ofNat 101, Char.ofNat 114, Char.ofNat 108, Char.ofNat 97, Char.ofNat 119, Char.ofNat 49, Char.ofNat 52, Char.ofNat 46, Char.ofNat 65, Char.ofNat 100, Char.ofNat 109, Char.ofNat 105, Char.ofNat 116, Char.ofNat 82, Char.ofNat 111, Char.ofNat 111, Char.ofNat 109, Char.ofNat 32, Char.ofNat 100, Char.ofNat 111, Char.ofNat 111, Char.ofNat 114, Char.ofNat 107, Char.ofNat 101, Char.ofNat 101, Char.ofNat 112, Char.ofNat 101, Char.ofNat 114, Char.ofNat 47, Char.ofNat 100, Char.ofNat 111, Char.ofNat 111, Char.ofNat 114, Char.ofNat 107, Char.ofNat 101, Char.ofNat 101, Char.ofNat 112, Char.ofNat 101, Char.ofNat 114, Char.ofNat 108, Char.ofNat 97, Char.ofNat 119, Char.ofNat 49, Char.ofNat 51, Char.ofNat 46, Char.ofNat 82, Char.ofNat 111, Char.ofNat 111, Char.ofNat 109, Char.ofNat 65, Char.ofNat 108, Char.ofNat 108, Char.ofNat 32, Char.ofNat 100, Char.ofNat 111, Char.ofNat 111, Char.ofNat 114, Char.ofNat 107, Char.ofNat 101, Char.ofNat 101, Char.ofNat 112, Char.ofNat 101, Char.ofNat 114, Char.ofNat 47, Char.ofNat 100, Char.ofNat 111, Char.ofNat 111, Char.ofNat 114, Char.ofNat 107, Char.ofNat 101, Char.ofNat 101, Char.ofNat 112, Char.ofNat 101, Char.ofNat 114, Char.ofNat 108, Char.ofNat 97, Char.ofNat 119, Char.ofNat 49, Char.ofNat 51, Char.ofNat 46, Char.ofNat 82, Char.ofNat 111, Char.ofNat 111, Char.ofNat 109, Char.ofNat 77, Char.ofNat 97, Char.ofNat 100, Char.ofNat 101, Char.ofNat 32, Char.ofNat 100, Char.ofNat 111, Char.ofNat 111, Char.ofNat 114, Char.ofNat 107, Char.ofNat 101, Char.ofNat 101, Char.ofNat 112, Char.ofNat 101, Char.ofNat 114, Char.ofNat 47, Char.ofNat 100, Char.ofNat 111, Char.ofNat 111, Char.ofNat 114, Char.ofNat 107, Char.ofNat 101, Char.ofNat 101, Char.ofNat 112, Char.ofNat 101, Char.ofNat 114, Char.ofNat 108, Char.ofNat 97, Char.ofNat 119, Char.ofNat 49, Char.ofNat 53, Char.ofNat 46, Char.ofNat 83, Char.ofNat 104, Char.ofNat 97, Char.ofNat 112, Char.ofNat 101, Char.ofNat 77, Char.ofNat 97, Char.ofNat 110, Char.ofNat 121, Char.ofNat 32, Char.ofNat 100, Char.ofNat 111, Char.ofNat 111, Char.ofNat 114, Char.ofNat 107, Char.ofNat 101, Char.ofNat 101, Char.ofNat 112, Char.ofNat 101, Char.ofNat 114, Char.ofNat 47, Char.ofNat 100, Char.ofNat 111, Char.ofNat 111, Char.ofNat 114, Char.ofNat 107, Char.ofNat 101, Char.ofNat 101, Char.ofNat 112, Char.ofNat 101, Char.ofNat 114, Char.ofNat 108, Char.ofNat 97, Char.ofNat 119, Char.ofNat 49, Char.ofNat 53, Char.ofNat 46, Char.ofNat 83, Char.ofNat 104, Char.ofNat 97, Char.ofNat 112, Char.ofNat 101, Char.ofNat 67, Char.ofNat 111, Char.ofNat 109, Char.ofNat 101, Char.ofNat 115, Char.ofNat 32, Char.ofNat 100, Char.ofNat 111, Char.ofNat 111, Char.ofNat 114, Char.ofNat 107, Char.ofNat 101, Char.ofNat 101, Char.ofNat 112, Char.ofNat 101, Char.ofNat 114, Char.ofNat 47, Char.ofNat 100, Char.ofNat 111, Char.ofNat 111, Char.ofNat 114, Char.ofNat 107, Char.ofNat 101, Char.ofNat 101, Char.ofNat 112, Char.ofNat 101, Char.ofNat 114, Char.ofNat 108, Char.ofNat 97, Char.ofNat 119, Char.ofNat 49, Char.ofNat 53, Char.ofNat 46, Char.ofNat 83, Char.ofNat 104, Char.ofNat 97, Char.ofNat 112, Char.ofNat 101, Char.ofNat 76, Char.ofNat 105, Char.ofNat 109, Char.ofNat 105, Char.ofNat 116, Char.ofNat 115, Char.ofNat 32, Char.ofNat 100, Char.ofNat 111, Char.ofNat 111, Char.ofNat 114, Char.ofNat 107, Char.ofNat 101, Char.ofNat 101, Char.ofNat 112, Char.ofNat 101, Char.ofNat 114, Char.ofNat 47, Char.ofNat 100, Char.ofNat 111, Char.ofNat 111, Char.ofNat 114, Char.ofNat 107, Char.ofNat 101, Char.ofNat 101, Char.ofNat 112, Char.ofNat 101, Char.ofNat 114, Char.ofNat 108, Char.ofNat 97, Char.ofNat 119, Char.ofNat 49, Char.ofNat 53, Char.ofNat 46, Char.ofNat 83, Char.ofNat 104, Char.ofNat 97, Char.ofNat 112, Char.ofNat 101, Char.ofNat 77, Char.ofNat 111, Char.ofNat 118, Char.ofNat 101, Char.ofNat 115, Char.ofNat 32, Char.ofNat 100, Char.ofNat 111, Char.ofNat 111, Char.ofNat 114, Char.ofNat 107, Char.ofNat 101, Char.ofNat 101, Char.ofNat 112, Char.ofNat 101, Char.ofNat 114, Char.ofNat 47, Char.ofNat 100, Char.ofNat 111, Char.ofNat 111, Char.ofNat 114, Char.ofNat 107, Char.ofNat 101, Char.ofNat 101, Char.ofNat 112, Char.ofNat 101, Char.ofNat 114, Char.ofNat 108, Char.ofNat 97, Char.ofNat 119, Char.ofNat 49, Char.ofNat 53, Char.ofNat 46, Char.ofNat 83, Char.ofNat 104, Char.ofNat 97, Char.ofNat 112, Char.ofNat 101, Char.ofNat 65, Char.ofNat 108, Char.ofNat 108, Char.ofNat 32, Char.ofNat 100, Char.ofNat 111, Char.ofNat 111, Char.ofNat 114, Char.ofNat 107, Char.ofNat 101, Char.ofNat 101, Char.ofNat 112, Char.ofNat 101, Char.ofNat 114, Char.ofNat 47, Char.ofNat 100, Char.ofNat 111, Char.ofNat 111, Char.ofNat 114, Char.ofNat 107, Char.ofNat 101, Char.ofNat 101, Char.ofNat 112, Char.ofNat 101, Char.ofNat 114, Char.ofNat 108, Char.ofNat 97, Char.ofNat 119, Char.ofNat 49, Char.ofNat 53, Char.ofNat 46, Char.ofNat 83, Char.ofNat 104, Char.ofNat 97, Char.ofNat 112, Char.ofNat 101, Char.ofNat 77, Char.ofNat 97, Char.ofNat 100, Char.ofNat 101, Char.ofNat 32, Char.ofNat 100, Char.ofNat 111, Char.ofNat 111, Char.ofNat 114, Char.ofNat 107, Char.ofNat 101, Char.ofNat 101, Char.ofNat 112, Char.ofNat 101, Char.ofNat 114, Char.ofNat 47, Char.ofNat 100, Char.ofNat 111, Char.ofNat 111, Char.ofNat 114, Char.ofNat 107, Char.ofNat 101, Char.ofNat 101, Char.ofNat 112, Char.ofNat 101, Char.ofNat 114, Char.ofNat 108, Char.ofNat 97, Char.ofNat 119, Char.ofNat 49, Char.ofNat 53, Char.ofNat 46, Char.ofNat 83, Char.ofNat 104, Char.ofNat 97, Char.ofNat 112, Char.ofNat 101, Char.ofNat 82, Char.ofNat 101, Char.ofNat 115, Char.ofNat 116, Char.ofNat 32, Char.ofNat 100, Char.ofNat 111, Char.ofNat 111, Char.ofNat 114, Char.ofNat 107, Char.ofNat 101, Char.ofNat 101, Char.ofNat 112, Char.ofNat 101, Char.ofNat 114, Char.ofNat 47, Char.ofNat 100, Char.ofNat 111, Char.ofNat 111, Char.ofNat 114, Char.ofNat 107, Char.ofNat 101, Char.ofNat 101, Char.ofNat 112, Char.ofNat 101, Char.ofNat 114, Char.ofNat 108, Char.ofNat 97, Char.ofNat 119, Char.ofNat 49, Char.ofNat 57, Char.ofNat 46, Char.ofNat 84, Char.ofNat 114, Char.ofNat 105, Char.ofNat 97, Char.ofNat 108, Char.ofNat 67, Char.ofNat 117, Char.ofNat 116, Char.ofNat 115, Char.ofNat 32, Char.ofNat 100, Char.ofNat 111, Char.ofNat 111, Char.ofNat 114, Char.ofNat 107, Char.ofNat 101, Char.ofNat 101, Char.ofNat 112, Char.ofNat 101, Char.ofNat 114, Char.ofNat 47, Char.ofNat 100, Char.ofNat 111, Char.ofNat 111, Char.ofNat 114, Char.ofNat 107, Char.ofNat 101, Char.ofNat 101, Char.ofNat 112, Char.ofNat 101, Char.ofNat 114, Char.ofNat 108, Char.ofNat 97, Char.ofNat 119, Char.ofNat 49, Char.ofNat 57, Char.ofNat 46, Char.ofNat 84, Char.ofNat 114, Char.ofNat 105, Char.ofNat 97, Char.ofNat 108, Char.ofNat 65, Char.ofNat 108, Char.ofNat 108, Char.ofNat 32, Char.ofNat 100, Char.ofNat 111, Char.ofNat 111, Char.ofNat 114, Char.ofNat 107, Char.ofNat 101, Char.ofNat 101, Char.ofNat 112, Char.ofNat 101, Char.ofNat 114, Char.ofNat 47, Char.ofNat 100, Char.ofNat 111, Char.ofNat 111, Char.ofNat 114, Char.ofNat 107, Char.ofNat 101, Char.ofNat 101, Char.ofNat 112, Char.ofNat 101, Char.ofNat 114, Char.ofNat 108, Char.ofNat 97, Char.ofNat 119, Char.ofNat 49, Char.ofNat 57, Char.ofNat 46, Char.ofNat 84, Char.ofNat 114, Char.ofNat 105, Char.ofNat 97, Char.ofNat 108, Char.ofNat 77, Char.ofNat 97, Char.ofNat 100, Char.ofNat 101]
set_option maxRecDepth 100000 in
theorem word : Try.prog.initOrder = String.ofList signs := by kernel_rfl
theorem list : Try.prog.initOrder.toList = signs := by rw [word, String.toList_ofList]
theorem words_app : ∀ (w r : List Char), (∀ c ∈ w, c ≠ Char.ofNat 32) → wordsSigns (w ++ Char.ofNat 32 :: r) = w :: wordsSigns r
  | [], r, _ => rfl
  | c :: w, r, h => by
    have hc : c ≠ Char.ofNat 32 := h c (by simp)
    have ih := words_app w r (fun d hd => h d (by simp [hd]))
    show wordsSigns (c :: (w ++ Char.ofNat 32 :: r)) = _
    rw [wordsSigns.eq_3 _ _ (fun q => hc q), ih]
def w1 : List Char := [Char.ofNat 104, Char.ofNat 97, Char.ofNat 114, Char.ofNat 110, Char.ofNat 101, Char.ofNat 115, Char.ofNat 115]
def w2 : List Char := [Char.ofNat 101, Char.ofNat 57, Char.ofNat 98, Char.ofNat 52, Char.ofNat 101, Char.ofNat 102, Char.ofNat 52, Char.ofNat 49, Char.ofNat 56, Char.ofNat 50, Char.ofNat 56, Char.ofNat 101, Char.ofNat 102, Char.ofNat 50, Char.ofNat 55, Char.ofNat 102, Char.ofNat 51, Char.ofNat 55, Char.ofNat 102, Char.ofNat 48, Char.ofNat 53, Char.ofNat 54, Char.ofNat 50, Char.ofNat 55, Char.ofNat 56, Char.ofNat 50, Char.ofNat 54, Char.ofNat 101, Char.ofNat 101, Char.ofNat 100, Char.ofNat 101, Char.ofNat 57, Char.ofNat 53, Char.ofNat 99, Char.ofNat 56, Char.ofNat 98, Char.ofNat 55, Char.ofNat 57, Char.ofNat 99, Char.ofNat 100, Char.ofNat 98, Char.ofNat 99, Char.ofNat 52, Char.ofNat 99, Char.ofNat 49, Char.ofNat 100, Char.ofNat 54, Char.ofNat 49, Char.ofNat 98, Char.ofNat 101, Char.ofNat 98, Char.ofNat 55, Char.ofNat 57, Char.ofNat 55, Char.ofNat 52, Char.ofNat 102, Char.ofNat 49, Char.ofNat 51, Char.ofNat 53, Char.ofNat 99, Char.ofNat 97, Char.ofNat 49, Char.ofNat 48, Char.ofNat 51]
def w3 : List Char := [Char.ofNat 99, Char.ofNat 117, Char.ofNat 116]
def rest : List Char := [Char.ofNat 97, Char.ofNat 116, Char.ofNat 32, Char.ofNat 100, Char.ofNat 111, Char.ofNat 111, Char.ofNat 114, Char.ofNat 107, Char.ofNat 101, Char.ofNat 101, Char.ofNat 112, Char.ofNat 101, Char.ofNat 114, Char.ofNat 47, Char.ofNat 100, Char.ofNat 111, Char.ofNat 111, Char.ofNat 114, Char.ofNat 107, Char.ofNat 101, Char.ofNat 101, Char.ofNat 112, Char.ofNat 101, Char.ofNat 114, Char.ofNat 108, Char.ofNat 97, Char.ofNat 119, Char.ofNat 49, Char.ofNat 51, Char.ofNat 46, Char.ofNat 82, Char.ofNat 111, Char.ofNat 111, Char.ofNat 109, Char.ofNat 85, Char.ofNat 112, Char.ofNat 32, Char.ofNat 100, Char.ofNat 111, Char.ofNat 111, Char.ofNat 114, Char.ofNat 107, Char.ofNat 101, Char.ofNat 101, Char.ofNat 112, Char.ofNat 101, Char.ofNat 114, Char.ofNat 47, Char.ofNat 100, Char.ofNat 111, Char.ofNat 111, Char.ofNat 114, Char.ofNat 107, Char.ofNat 101, Char.ofNat 101, Char.ofNat 112, Char.ofNat 101, Char.ofNat 114, Char.ofNat 108, Char.ofNat 97, Char.ofNat 119, Char.ofNat 49, Char.ofNat 55, Char.ofNat 46, Char.ofNat 68, Char.ofNat 114, Char.ofNat 105, Char.ofNat 102, Char.ofNat 116, Char.ofNat 65, Char.ofNat 108, Char.ofNat 108, Char.ofNat 32, Char.ofNat 100, Char.ofNat 111, Char.ofNat 111, Char.ofNat 114, Char.ofNat 107, Char.ofNat 101, Char.ofNat 101, Char.ofNat 112, Char.ofNat 101, Char.ofNat 114, Char.ofNat 47, Char.ofNat 100, Char.ofNat 111, Char.ofNat 111, Char.ofNat 114, Char.ofNat 107, Char.ofNat 101, Char.ofNat 101, Char.ofNat 112, Char.ofNat 101, Char.ofNat 114, Char.ofNat 108, Char.ofNat 97, Char.ofNat 119, Char.ofNat 49, Char.ofNat 55, Char.ofNat 46, Char.ofNat 68, Char.ofNat 114, Char.ofNat 105, Char.ofNat 102, Char.ofNat 116, Char.ofNat 84, Char.ofNat 101, Char.ofNat 108, Char.ofNat 108, Char.ofNat 115, Char.ofNat 32, Char.ofNat 100, Char.ofNat 111, Char.ofNat 111, Char.ofNat 114, Char.ofNat 107, Char.ofNat 101, Char.ofNat 101, Char.ofNat 112, Char.ofNat 101, Char.ofNat 114, Char.ofNat 47, Char.ofNat 100, Char.ofNat 111, Char.ofNat 111, Char.ofNat 114, Char.ofNat 107, Char.ofNat 101, Char.ofNat 101, Char.ofNat 112, Char.ofNat 101, Char.ofNat 114, Char.ofNat 108, Char.ofNat 97, Char.ofNat 119, Char.ofNat 50, Char.ofNat 48, Char.ofNat 46, Char.ofNat 69, Char.ofNat 102, Char.ofNat 102, Char.ofNat 101, Char.ofNat 99, Char.ofNat 116, Char.ofNat 65, Char.ofNat 108, Char.ofNat 108, Char.ofNat 32, Char.ofNat 100, Char.ofNat 111, Char.ofNat 111, Char.ofNat 114, Char.ofNat 107, Char.ofNat 101, Char.ofNat 101, Char.ofNat 112, Char.ofNat 101, Char.ofNat 114, Char.ofNat 47, Char.ofNat 100, Char.ofNat 111, Char.ofNat 111, Char.ofNat 114, Char.ofNat 107, Char.ofNat 101, Char.ofNat 101, Char.ofNat 112, Char.ofNat 101, Char.ofNat 114, Char.ofNat 108, Char.ofNat 97, Char.ofNat 119, Char.ofNat 50, Char.ofNat 48, Char.ofNat 46, Char.ofNat 69, Char.ofNat 102, Char.ofNat 102, Char.ofNat 101, Char.ofNat 99, Char.ofNat 116, Char.ofNat 77, Char.ofNat 97, Char.ofNat 100, Char.ofNat 101, Char.ofNat 32, Char.ofNat 100, Char.ofNat 111, Char.ofNat 111, Char.ofNat 114, Char.ofNat 107, Char.ofNat 101, Char.ofNat 101, Char.ofNat 112, Char.ofNat 101, Char.ofNat 114, Char.ofNat 47, Char.ofNat 100, Char.ofNat 111, Char.ofNat 111, Char.ofNat 114, Char.ofNat 107, Char.ofNat 101, Char.ofNat 101, Char.ofNat 112, Char.ofNat 101, Char.ofNat 114, Char.ofNat 108, Char.ofNat 97, Char.ofNat 119, Char.ofNat 50, Char.ofNat 48, Char.ofNat 46, Char.ofNat 69, Char.ofNat 102, Char.ofNat 102, Char.ofNat 101, Char.ofNat 99, Char.ofNat 116, Char.ofNat 68, Char.ofNat 111, Char.ofNat 110, Char.ofNat 101, Char.ofNat 32, Char.ofNat 100, Char.ofNat 111, Char.ofNat 111, Char.ofNat 114, Char.ofNat 107, Char.ofNat 101, Char.ofNat 101, Char.ofNat 112, Char.ofNat 101, Char.ofNat 114, Char.ofNat 47, Char.ofNat 100, Char.ofNat 111, Char.ofNat 111, Char.ofNat 114, Char.ofNat 107, Char.ofNat 101, Char.ofNat 101, Char.ofNat 112, Char.ofNat 101, Char.ofNat 114, Char.ofNat 108, Char.ofNat 97, Char.ofNat 119, Char.ofNat 49, Char.ofNat 52, Char.ofNat 46, Char.ofNat 65, Char.ofNat 100, Char.ofNat 109, Char.ofNat 105, Char.ofNat 116, Char.ofNat 84, Char.ofNat 119, Char.ofNat 105, Char.ofNat 99, Char.ofNat 101, Char.ofNat 32, Char.ofNat 100, Char.ofNat 111, Char.ofNat 111, Char.ofNat 114, Char.ofNat 107, Char.ofNat 101, Char.ofNat 101, Char.ofNat 112, Char.ofNat 101, Char.ofNat 114, Char.ofNat 47, Char.ofNat 100, Char.ofNat 111, Char.ofNat 111, Char.ofNat 114, Char.ofNat 107, Char.ofNat 101, Char.ofNat 101, Char.ofNat 112, Char.ofNat 101, Char.ofNat 114, Char.ofNat 108, Char.ofNat 97, Char.ofNat 119, Char.ofNat 49, Char.ofNat 51, Char.ofNat 46, Char.ofNat 82, Char.ofNat 111, Char.ofNat 111, Char.ofNat 109, Char.ofNat 70, Char.ofNat 105, Char.ofNat 116, Char.ofNat 115, Char.ofNat 32, Char.ofNat 100, Char.ofNat 111, Char.ofNat 111, Char.ofNat 114, Char.ofNat 107, Char.ofNat 101, Char.ofNat 101, Char.ofNat 112, Char.ofNat 101, Char.ofNat 114, Char.ofNat 47, Char.ofNat 100, Char.ofNat 111, Char.ofNat 111, Char.ofNat 114, Char.ofNat 107, Char.ofNat 101, Char.ofNat 101, Char.ofNat 112, Char.ofNat 101, Char.ofNat 114, Char.ofNat 108, Char.ofNat 97, Char.ofNat 119, Char.ofNat 49, Char.ofNat 50, Char.ofNat 46, Char.ofNat 84, Char.ofNat 114, Char.ofNat 101, Char.ofNat 101, Char.ofNat 65, Char.ofNat 108, Char.ofNat 108, Char.ofNat 32, Char.ofNat 100, Char.ofNat 111, Char.ofNat 111, Char.ofNat 114, Char.ofNat 107, Char.ofNat 101, Char.ofNat 101, Char.ofNat 112, Char.ofNat 101, Char.ofNat 114, Char.ofNat 47, Char.ofNat 100, Char.ofNat 111, Char.ofNat 111, Char.ofNat 114, Char.ofNat 107, Char.ofNat 101, Char.ofNat 101, Char.ofNat 112, Char.ofNat 101, Char.ofNat 114, Char.ofNat 108, Char.ofNat 97, Char.ofNat 119, Char.ofNat 49, Char.ofNat 50, Char.ofNat 46, Char.ofNat 84, Char.ofNat 114, Char.ofNat 101, Char.ofNat 101, Char.ofNat 77, Char.ofNat 97, Char.ofNat 100, Char.ofNat 101, Char.ofNat 32, Char.ofNat 100, Char.ofNat 111, Char.ofNat 111, Char.ofNat 114, Char.ofNat 107, Char.ofNat 101, Char.ofNat 101, Char.ofNat 112, Char.ofNat 101, Char.ofNat 114, Char.ofNat 47, Char.ofNat 100, Char.ofNat 111, Char.ofNat 111, Char.ofNat 114, Char.ofNat 107, Char.ofNat 101, Char.ofNat 101, Char.ofNat 112, Char.ofNat 101, Char.ofNat 114, Char.ofNat 108, Char.ofNat 97, Char.ofNat 119, Char.ofNat 49, Char.ofNat 50, Char.ofNat 46, Char.ofNat 84, Char.ofNat 114, Char.ofNat 101, Char.ofNat 101, Char.ofNat 83, Char.ofNat 117, Char.ofNat 109, Char.ofNat 115, Char.ofNat 32, Char.ofNat 100, Char.ofNat 111, Char.ofNat 111, Char.ofNat 114, Char.ofNat 107, Char.ofNat 101, Char.ofNat 101, Char.ofNat 112, Char.ofNat 101, Char.ofNat 114, Char.ofNat 47, Char.ofNat 100, Char.ofNat 111, Char.ofNat 111, Char.ofNat 114, Char.ofNat 107, Char.ofNat 101, Char.ofNat 101, Char.ofNat 112, Char.ofNat 101, Char.ofNat 114, Char.ofNat 108, Char.ofNat 97, Char.ofNat 119, Char.ofNat 49, Char.ofNat 50, Char.ofNat 46, Char.ofNat 84, Char.ofNat 114, Char.ofNat 101, Char.ofNat 101, Char.ofNat 66, Char.ofNat 101, Char.ofNat 108, Char.ofNat 111, Char.ofNat 119, Char.ofNat 32, Char.ofNat 100, Char.ofNat 111, Char.ofNat 111, Char.ofNat 114, Char.ofNat 107, Char.ofNat 101, Char.ofNat 101, Char.ofNat 112, Char.ofNat 101, Char.ofNat 114, Char.ofNat 47, Char.ofNat 100, Char.ofNat 111, Char.ofNat 111, Char.ofNat 114, Char.ofNat 107, Char.ofNat 101, Char.ofNat 101, Char.ofNat 112, Char.ofNat 101, Char.ofNat 114, Char.ofNat 108, Char.ofNat 97, Char.ofNat 119, Char.ofNat 49, Char.ofNat 51, Char.ofNat 46, Char.ofNat 82, Char.ofNat 111, Char.ofNat 111, Char.ofNat 109, Char.ofNat 83, Char.ofNat 104, Char.ofNat 97, Char.ofNat 114, Char.ofNat 101, Char.ofNat 115, Char.ofNat 32, Char.ofNat 100, Char.ofNat 111, Char.ofNat 111, Char.ofNat 114, Char.ofNat 107, Char.ofNat 101, Char.ofNat 101, Char.ofNat 112, Char.ofNat 101, Char.ofNat 114, Char.ofNat 47, Char.ofNat 100, Char.ofNat 111, Char.ofNat 111, Char.ofNat 114, Char.ofNat 107, Char.ofNat 101, Char.ofNat 101, Char.ofNat 112, Char.ofNat 101, Char.ofNat 114, Char.ofNat 108, Char.ofNat 97, Char.ofNat 119, Char.ofNat 49, Char.ofNat 52, Char.ofNat 46, Char.ofNat 65, Char.ofNat 100, Char.ofNat 109, Char.ofNat 105, Char.ofNat 116, Char.ofNat 65, Char.ofNat 108, Char.ofNat 108, Char.ofNat 32, Char.ofNat 100, Char.ofNat 111, Char.ofNat 111, Char.ofNat 114, Char.ofNat 107, Char.ofNat 101, Char.ofNat 101, Char.ofNat 112, Char.ofNat 101, Char.ofNat 114, Char.ofNat 47, Char.ofNat 100, Char.ofNat 111, Char.ofNat 111, Char.ofNat 114, Char.ofNat 107, Char.ofNat 101, Char.ofNat 101, Char.ofNat 112, Char.ofNat 101, Char.ofNat 114, Char.ofNat 108, Char.ofNat 97, Char.ofNat 119, Char.ofNat 49, Char.ofNat 52, Char.ofNat 46, Char.ofNat 65, Char.ofNat 100, Char.ofNat 109, Char.ofNat 105, Char.ofNat 116, Char.ofNat 77, Char.ofNat 97, Char.ofNat 100, Char.ofNat 101, Char.ofNat 32, Char.ofNat 100, Char.ofNat 111, Char.ofNat 111, Char.ofNat 114, Char.ofNat 107, Char.ofNat 101, Char.ofNat 101, Char.ofNat 112, Char.ofNat 101, Char.ofNat 114, Char.ofNat 47, Char.ofNat 100, Char.ofNat 111, Char.ofNat 111, Char.ofNat 114, Char.ofNat 107, Char.ofNat 101, Char.ofNat 101, Char.ofNat 112, Char.ofNat 101, Char.ofNat 114, Char.ofNat 108, Char.ofNat 97, Char.ofNat 119, Char.ofNat 49, Char.ofNat 52, Char.ofNat 46, Char.ofNat 65, Char.ofNat 100, Char.ofNat 109, Char.ofNat 105, Char.ofNat 116, Char.ofNat 82, Char.ofNat 111, Char.ofNat 111, Char.ofNat 109, Char.ofNat 32, Char.ofNat 100, Char.ofNat 111, Char.ofNat 111, Char.ofNat 114, Char.ofNat 107, Char.ofNat 101, Char.ofNat 101, Char.ofNat 112, Char.ofNat 101, Char.ofNat 114, Char.ofNat 47, Char.ofNat 100, Char.ofNat 111, Char.ofNat 111, Char.ofNat 114, Char.ofNat 107, Char.ofNat 101, Char.ofNat 101, Char.ofNat 112, Char.ofNat 101, Char.ofNat 114, Char.ofNat 108, Char.ofNat 97, Char.ofNat 119, Char.ofNat 49, Char.ofNat 51, Char.ofNat 46, Char.ofNat 82, Char.ofNat 111, Char.ofNat 111, Char.ofNat 109, Char.ofNat 65, Char.ofNat 108, Char.ofNat 108, Char.ofNat 32, Char.ofNat 100, Char.ofNat 111, Char.ofNat 111, Char.ofNat 114, Char.ofNat 107, Char.ofNat 101, Char.ofNat 101, Char.ofNat 112, Char.ofNat 101, Char.ofNat 114, Char.ofNat 47, Char.ofNat 100, Char.ofNat 111, Char.ofNat 111, Char.ofNat 114, Char.ofNat 107, Char.ofNat 101, Char.ofNat 101, Char.ofNat 112, Char.ofNat 101, Char.ofNat 114, Char.ofNat 108, Char.ofNat 97, Char.ofNat 119, Char.ofNat 49, Char.ofNat 51, Char.ofNat 46, Char.ofNat 82, Char.ofNat 111, Char.ofNat 111, Char.ofNat 109, Char.ofNat 77, Char.ofNat 97, Char.ofNat 100, Char.ofNat 101, Char.ofNat 32, Char.ofNat 100, Char.ofNat 111, Char.ofNat 111, Char.ofNat 114, Char.ofNat 107, Char.ofNat 101, Char.ofNat 101, Char.ofNat 112, Char.ofNat 101, Char.ofNat 114, Char.ofNat 47, Char.ofNat 100, Char.ofNat 111, Char.ofNat 111, Char.ofNat 114, Char.ofNat 107, Char.ofNat 101, Char.ofNat 101, Char.ofNat 112, Char.ofNat 101, Char.ofNat 114, Char.ofNat 108, Char.ofNat 97, Char.ofNat 119, Char.ofNat 49, Char.ofNat 53, Char.ofNat 46, Char.ofNat 83, Char.ofNat 104, Char.ofNat 97, Char.ofNat 112, Char.ofNat 101, Char.ofNat 77, Char.ofNat 97, Char.ofNat 110, Char.ofNat 121, Char.ofNat 32, Char.ofNat 100, Char.ofNat 111, Char.ofNat 111, Char.ofNat 114, Char.ofNat 107, Char.ofNat 101, Char.ofNat 101, Char.ofNat 112, Char.ofNat 101, Char.ofNat 114, Char.ofNat 47, Char.ofNat 100, Char.ofNat 111, Char.ofNat 111, Char.ofNat 114, Char.ofNat 107, Char.ofNat 101, Char.ofNat 101, Char.ofNat 112, Char.ofNat 101, Char.ofNat 114, Char.ofNat 108, Char.ofNat 97, Char.ofNat 119, Char.ofNat 49, Char.ofNat 53, Char.ofNat 46, Char.ofNat 83, Char.ofNat 104, Char.ofNat 97, Char.ofNat 112, Char.ofNat 101, Char.ofNat 67, Char.ofNat 111, Char.ofNat 109, Char.ofNat 101, Char.ofNat 115, Char.ofNat 32, Char.ofNat 100, Char.ofNat 111, Char.ofNat 111, Char.ofNat 114, Char.ofNat 107, Char.ofNat 101, Char.ofNat 101, Char.ofNat 112, Char.ofNat 101, Char.ofNat 114, Char.ofNat 47, Char.ofNat 100, Char.ofNat 111, Char.ofNat 111, Char.ofNat 114, Char.ofNat 107, Char.ofNat 101, Char.ofNat 101, Char.ofNat 112, Char.ofNat 101, Char.ofNat 114, Char.ofNat 108, Char.ofNat 97, Char.ofNat 119, Char.ofNat 49, Char.ofNat 53, Char.ofNat 46, Char.ofNat 83, Char.ofNat 104, Char.ofNat 97, Char.ofNat 112, Char.ofNat 101, Char.ofNat 76, Char.ofNat 105, Char.ofNat 109, Char.ofNat 105, Char.ofNat 116, Char.ofNat 115, Char.ofNat 32, Char.ofNat 100, Char.ofNat 111, Char.ofNat 111, Char.ofNat 114, Char.ofNat 107, Char.ofNat 101, Char.ofNat 101, Char.ofNat 112, Char.ofNat 101, Char.ofNat 114, Char.ofNat 47, Char.ofNat 100, Char.ofNat 111, Char.ofNat 111, Char.ofNat 114, Char.ofNat 107, Char.ofNat 101, Char.ofNat 101, Char.ofNat 112, Char.ofNat 101, Char.ofNat 114, Char.ofNat 108, Char.ofNat 97, Char.ofNat 119, Char.ofNat 49, Char.ofNat 53, Char.ofNat 46, Char.ofNat 83, Char.ofNat 104, Char.ofNat 97, Char.ofNat 112, Char.ofNat 101, Char.ofNat 77, Char.ofNat 111, Char.ofNat 118, Char.ofNat 101, Char.ofNat 115, Char.ofNat 32, Char.ofNat 100, Char.ofNat 111, Char.ofNat 111, Char.ofNat 114, Char.ofNat 107, Char.ofNat 101, Char.ofNat 101, Char.ofNat 112, Char.ofNat 101, Char.ofNat 114, Char.ofNat 47, Char.ofNat 100, Char.ofNat 111, Char.ofNat 111, Char.ofNat 114, Char.ofNat 107, Char.ofNat 101, Char.ofNat 101, Char.ofNat 112, Char.ofNat 101, Char.ofNat 114, Char.ofNat 108, Char.ofNat 97, Char.ofNat 119, Char.ofNat 49, Char.ofNat 53, Char.ofNat 46, Char.ofNat 83, Char.ofNat 104, Char.ofNat 97, Char.ofNat 112, Char.ofNat 101, Char.ofNat 65, Char.ofNat 108, Char.ofNat 108, Char.ofNat 32, Char.ofNat 100, Char.ofNat 111, Char.ofNat 111, Char.ofNat 114, Char.ofNat 107, Char.ofNat 101, Char.ofNat 101, Char.ofNat 112, Char.ofNat 101, Char.ofNat 114, Char.ofNat 47, Char.ofNat 100, Char.ofNat 111, Char.ofNat 111, Char.ofNat 114, Char.ofNat 107, Char.ofNat 101, Char.ofNat 101, Char.ofNat 112, Char.ofNat 101, Char.ofNat 114, Char.ofNat 108, Char.ofNat 97, Char.ofNat 119, Char.ofNat 49, Char.ofNat 53, Char.ofNat 46, Char.ofNat 83, Char.ofNat 104, Char.ofNat 97, Char.ofNat 112, Char.ofNat 101, Char.ofNat 77, Char.ofNat 97, Char.ofNat 100, Char.ofNat 101, Char.ofNat 32, Char.ofNat 100, Char.ofNat 111, Char.ofNat 111, Char.ofNat 114, Char.ofNat 107, Char.ofNat 101, Char.ofNat 101, Char.ofNat 112, Char.ofNat 101, Char.ofNat 114, Char.ofNat 47, Char.ofNat 100, Char.ofNat 111, Char.ofNat 111, Char.ofNat 114, Char.ofNat 107, Char.ofNat 101, Char.ofNat 101, Char.ofNat 112, Char.ofNat 101, Char.ofNat 114, Char.ofNat 108, Char.ofNat 97, Char.ofNat 119, Char.ofNat 49, Char.ofNat 53, Char.ofNat 46, Char.ofNat 83, Char.ofNat 104, Char.ofNat 97, Char.ofNat 112, Char.ofNat 101, Char.ofNat 82, Char.ofNat 101, Char.ofNat 115, Char.ofNat 116, Char.ofNat 32, Char.ofNat 100, Char.ofNat 111, Char.ofNat 111, Char.ofNat 114, Char.ofNat 107, Char.ofNat 101, Char.ofNat 101, Char.ofNat 112, Char.ofNat 101, Char.ofNat 114, Char.ofNat 47, Char.ofNat 100, Char.ofNat 111, Char.ofNat 111, Char.ofNat 114, Char.ofNat 107, Char.ofNat 101, Char.ofNat 101, Char.ofNat 112, Char.ofNat 101, Char.ofNat 114, Char.ofNat 108, Char.ofNat 97, Char.ofNat 119, Char.ofNat 49, Char.ofNat 57, Char.ofNat 46, Char.ofNat 84, Char.ofNat 114, Char.ofNat 105, Char.ofNat 97, Char.ofNat 108, Char.ofNat 67, Char.ofNat 117, Char.ofNat 116, Char.ofNat 115, Char.ofNat 32, Char.ofNat 100, Char.ofNat 111, Char.ofNat 111, Char.ofNat 114, Char.ofNat 107, Char.ofNat 101, Char.ofNat 101, Char.ofNat 112, Char.ofNat 101, Char.ofNat 114, Char.ofNat 47, Char.ofNat 100, Char.ofNat 111, Char.ofNat 111, Char.ofNat 114, Char.ofNat 107, Char.ofNat 101, Char.ofNat 101, Char.ofNat 112, Char.ofNat 101, Char.ofNat 114, Char.ofNat 108, Char.ofNat 97, Char.ofNat 119, Char.ofNat 49, Char.ofNat 57, Char.ofNat 46, Char.ofNat 84, Char.ofNat 114, Char.ofNat 105, Char.ofNat 97, Char.ofNat 108, Char.ofNat 65, Char.ofNat 108, Char.ofNat 108, Char.ofNat 32, Char.ofNat 100, Char.ofNat 111, Char.ofNat 111, Char.ofNat 114, Char.ofNat 107, Char.ofNat 101, Char.ofNat 101, Char.ofNat 112, Char.ofNat 101, Char.ofNat 114, Char.ofNat 47, Char.ofNat 100, Char.ofNat 111, Char.ofNat 111, Char.ofNat 114, Char.ofNat 107, Char.ofNat 101, Char.ofNat 101, Char.ofNat 112, Char.ofNat 101, Char.ofNat 114, Char.ofNat 108, Char.ofNat 97, Char.ofNat 119, Char.ofNat 49, Char.ofNat 57, Char.ofNat 46, Char.ofNat 84, Char.ofNat 114, Char.ofNat 105, Char.ofNat 97, Char.ofNat 108, Char.ofNat 77, Char.ofNat 97, Char.ofNat 100, Char.ofNat 101]
theorem parts : signs = w1 ++ Char.ofNat 32 :: (w2 ++ Char.ofNat 32 :: (w3 ++ Char.ofNat 32 :: rest)) := by kernel_rfl
theorem behind : ∃ r, behindMainWord (wordsSigns Try.prog.initOrder.toList) = w3 :: r := by
  refine ⟨wordsSigns rest, ?_⟩
  rw [list, parts, words_app w1 _ (by decide), words_app w2 _ (by decide), words_app w3 _ (by decide)]
  generalize wordsSigns rest = r
  rfl
theorem strip (r : List (List Char)) : stripLifts liftWords (w3 :: r) = ([], w3 :: r) := by kernel_rfl
theorem not_carried (r : List (List Char)) : ((w3 :: r).head? == some "carried".toList) = false := by kernel_rfl
theorem is_cut (r : List (List Char)) : ((w3 :: r).head? == some "cut".toList) = true := by kernel_rfl
theorem not_gc : (w3 == "gc".toList || w3 == "spec".toList) = false := by kernel_rfl
theorem cut_ : (w3 == "cut".toList) = true := by kernel_rfl
theorem lifts_of {P : Program} {r : List (List Char)} (h : behindMainWord (wordsSigns P.initOrder.toList) = w3 :: r) : P.liftsFinal = false := by
  unfold Program.liftsFinal Program.headLifts
  simp only [h, strip, not_carried, is_cut, if_true, Bool.false_and, Bool.false_or, List.contains_nil]
theorem make_of {P : Program} {r : List (List Char)} (h : behindMainWord (wordsSigns P.initOrder.toList) = w3 :: r) : P.make = some .cut := by
  unfold Program.make
  simp only [h, not_gc, cut_, Bool.true_or, if_true, Bool.false_eq_true, if_false]
theorem lifts : Try.prog.liftsFinal = false := by obtain ⟨r, h⟩ := behind; exact lifts_of h
theorem make : Try.prog.make = some .cut := by obtain ⟨r, h⟩ := behind; exact make_of h
theorem later : Try.prog.laysLater = false := by kernel_rfl
theorem reflects : Try.prog.bearsReflect = false := by kernel_rfl
theorem door : Try.prog.doorFits [] = true := by kernel_rfl
theorem may_of {P : Program} {r : List (List Char)} (h : behindMainWord (wordsSigns P.initOrder.toList) = w3 :: r) (h1 : P.laysLater = false) (h2 : P.bearsReflect = false) (h3 : P.doorFits [] = true) : P.mayEnter = true := by
  unfold Program.mayEnter
  simp only [h, strip, is_cut, h1, h2, h3, List.contains_nil, Bool.not_false, Bool.or_true, Bool.and_true, Bool.and_self]
theorem mayEnter : Try.prog.mayEnter = true := by obtain ⟨r, h⟩ := behind; exact may_of h later reflects door
theorem stopsHeard : Try.prog.stopsHeard = true := by kernel_rfl
theorem laidOut : laidOutB Try.prog = true := by kernel_rfl
theorem mapsRowed : mapsRowed Try.prog = true := by kernel_rfl
theorem stops : (Try.prog.stops == []) = true := by kernel_rfl
theorem stopKnobs : (Try.prog.stopKnobs == []) = true := by kernel_rfl
end Go.Proofs.Ytcgefpklljclgaa.Head

-- PRINTED WORDS (module Derived/Print/Sized.lean): go-gate-2's, for the rows of laws over slices: an AI agent of Go's test side, Tue Nov 17 2026; no person has read it. Lean checks it.
namespace Go.Proofs.YtcgefpklljclgaaW.PrintWords
open Go.ChangeShapes Go.WideShapes
/-- A row's slice of whole numbers is no longer than its weight allows. -/
theorem sized_ints {H : Type} {enc : TypeId × Value → H} {P : Program} {W : World} {base : Nat} {spare : Nat → Bool} {held : Bool} {t e : TypeId} {k : IntKind} {a : Option Addr} {len cap : Nat} {d : DataW H} {ps : List MemPlace} {ts : List TypeId} {ds : List (DataW H)} {j : Nat}
    (hsz : (DataW.weightsEach P ts ds).all (· ≤ reachBytes) = true) (ht : ts[j]? = some t) (hd : ds[j]? = some d) (hu : P.underlying t = some (.slice e)) (he : P.underlying e = some (.int k)) (hc : P.cellsOf e = 1) {B : Nat} (hB : P.bytesOf e = B)
    (h : DataW.Trod enc P W base spare held t (.slice a len cap) d ps) : len * B ≤ 140737488351232 := by
  obtain ⟨fuel, hf⟩ := h
  rcases open_ints hu he hc hf with ⟨hcs, _⟩ | ⟨x, l, c, zs, hcs, _, hl, _, hz, hx, _, _⟩
  · simp [Value.cells] at hcs
    obtain ⟨rfl, rfl, rfl⟩ := hcs
    simp
  · simp [Value.cells] at hcs
    obtain ⟨rfl, rfl, rfl⟩ := hcs
    obtain ⟨hx, _⟩ := Prod.mk.inj hx
    subst hx
    have z := sized_slice hsz ht hd hu
    rw [hB] at z
    have hl2 : len ≤ zs.length := by
      rw [hz]
      split
      · exact hl
      · exact Nat.le_refl _
    have h1 : (lits (H := H) k (zs.take len)).length + (lits (H := H) k (zs.drop len)).length = zs.length := by
      simp [lits]
      omega
    rw [h1] at z
    exact Nat.le_trans (Nat.mul_le_mul_right _ hl2) z
end Go.Proofs.YtcgefpklljclgaaW.PrintWords

/- Plain helpers: lists by index, Mod, Amount. -/
import Derived.Test.YteecjaiklpkhaaaK4
namespace Go.Proofs.Yteecjaiklpkhaaa
open Go

def I64 (n : Int) : Prop := -9223372036854775808 ≤ n ∧ n ≤ 9223372036854775807

/-- Element k, some element where there is none. -/
def at_ {α : Type} [Inhabited α] (l : List α) (k : Nat) : α := l.getD k default
theorem at_some {α : Type} [Inhabited α] {l : List α} {k : Nat} (h : k < l.length) : l[k]? = some (at_ l k) := by
  unfold at_; rw [List.getD_eq_getElem?_getD, List.getElem?_eq_getElem h]; rfl
theorem at_map {α β : Type} [Inhabited β] (f : α → β) (l : List α) {k : Nat} {x : α} (h : l[k]? = some x) : at_ (l.map f) k = f x := by
  unfold at_; rw [List.getD_eq_getElem?_getD, List.getElem?_map, h]; rfl
theorem range_at {n k : Nat} (h : k < n) : (List.range n)[k]? = some k := by simp [h]
theorem ext_at {α : Type} [Inhabited α] {l m : List α} (hl : l.length = m.length) (h : ∀ k, k < l.length → at_ l k = at_ m k) : l = m := by
  refine List.ext_getElem? fun k => ?_
  rcases Nat.lt_or_ge k l.length with hk | hk
  · rw [at_some hk, at_some (show k < m.length by omega), h k hk]
  · rw [List.getElem?_eq_none hk, List.getElem?_eq_none (by omega)]
theorem at_mem {α : Type} [Inhabited α] {Q : α → Prop} {l : List α} (h : ∀ x, x ∈ l → Q x) (i : Nat) (hi : i < l.length) : Q (at_ l i) := by
  have := at_some hi
  exact h _ (List.mem_of_getElem? this)
theorem at_in {α : Type} [Inhabited α] {l : List α} {i : Nat} (hi : i < l.length) : at_ l i ∈ l := List.mem_of_getElem? (at_some hi)
theorem at_cons_zero {α : Type} [Inhabited α] (x : α) (l : List α) : at_ (x :: l) 0 = x := rfl
theorem at_cons_succ {α : Type} [Inhabited α] (x : α) (l : List α) (k : Nat) : at_ (x :: l) (k + 1) = at_ l k := by simp [at_]
theorem at_app_left {α : Type} [Inhabited α] {l m : List α} {k : Nat} (h : k < l.length) : at_ (l ++ m) k = at_ l k := by
  unfold at_; rw [List.getD_eq_getElem?_getD, List.getD_eq_getElem?_getD, List.getElem?_append_left h]
theorem at_app_right {α : Type} [Inhabited α] {l m : List α} {k : Nat} : at_ (l ++ m) (l.length + k) = at_ m k := by
  unfold at_; rw [List.getD_eq_getElem?_getD, List.getD_eq_getElem?_getD, List.getElem?_append_right (by omega), Nat.add_sub_cancel_left]
theorem at_app_last {α : Type} [Inhabited α] (l : List α) (x : α) : at_ (l ++ [x]) l.length = x := by
  have := at_app_right (l := l) (m := [x]) (k := 0); rw [Nat.add_zero] at this; rw [this]; rfl
theorem mem_at {α : Type} [Inhabited α] {l : List α} {x : α} (h : x ∈ l) : ∃ i, i < l.length ∧ at_ l i = x := by
  obtain ⟨i, hi, e⟩ := List.getElem_of_mem h
  refine ⟨i, hi, ?_⟩
  have := at_some hi
  rw [List.getElem?_eq_getElem hi] at this
  exact (Option.some.inj this).symm.trans e
theorem take_succ_at {α : Type} [Inhabited α] {l : List α} {k : Nat} (h : k < l.length) : l.take (k + 1) = l.take k ++ [at_ l k] := by
  rw [List.take_add_one, at_some h]; rfl

/-- Mod: the remainder, from 0 on. -/
def md (n m : Int) : Int := if n.tmod m < 0 then n.tmod m + m else n.tmod m
theorem md_bd (n m : Int) (h : 0 < m) : 0 ≤ md n m ∧ md n m < m := by
  unfold md
  have h1 := Int.tmod_lt_of_pos n h
  have h2 : -m < n.tmod m := by
    have := Int.tmod_lt_of_pos (-n) h
    rw [Int.neg_tmod] at this
    omega
  split <;> omega

/-- Amount. -/
def am (n : Int) : Int := if md n 8 = 0 then 0 else if md n 8 = 1 then 1000000000000 - md (n.tdiv 8) 1000 else if md n 8 = 2 then md (n.tdiv 8) 1000000000001 else md (n.tdiv 8) 5000
theorem am_bd (n : Int) : 0 ≤ am n ∧ am n ≤ 1000000000000 := by
  unfold am
  have h1 := md_bd (n.tdiv 8) 1000 (by omega)
  have h2 := md_bd (n.tdiv 8) 1000000000001 (by omega)
  have h3 := md_bd (n.tdiv 8) 5000 (by omega)
  split
  · omega
  · split
    · omega
    · split <;> omega
theorem tdiv_eq_if (n d : Int) (hd : 0 < d) : (0 ≤ n → 0 ≤ n.tdiv d ∧ n.tdiv d ≤ n) ∧ (n ≤ 0 → n ≤ n.tdiv d ∧ n.tdiv d ≤ 0) := by
  have key : ∀ m : Int, 0 ≤ m → 0 ≤ m.tdiv d ∧ m.tdiv d ≤ m := fun m hm => ⟨Int.tdiv_nonneg hm (by omega), Int.tdiv_le_self d hm⟩
  refine ⟨key n, fun h => ?_⟩
  have := key (-n) (by omega)
  rw [Int.neg_tdiv] at this
  omega
theorem tdiv8 (n : Int) (h : I64 n) : -9223372036854775808 ≤ n.tdiv 8 ∧ n.tdiv 8 ≤ 9223372036854775807 := by
  obtain ⟨h1, h2⟩ := h
  obtain ⟨h3, h4⟩ := tdiv_eq_if n 8 (by decide)
  rcases Int.le_total 0 n with h | h
  · have := h3 h; omega
  · have := h4 h; omega
end Go.Proofs.Yteecjaiklpkhaaa

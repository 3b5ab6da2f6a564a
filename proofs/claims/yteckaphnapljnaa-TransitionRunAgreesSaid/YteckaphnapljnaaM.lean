/- The plain data of chapter 23, and what the functions come to: no program in sight but for the cells of each datum. -/
import Derived.Test.YteckaphnapljnaaK4
namespace Go.Proofs.Yteckaphnapljnaa
open Go

structure Raw where
  law : Bool
  ends : Bool
  amount : Int
deriving DecidableEq, Inhabited

structure Stage where
  month : Int
  law : Bool
  ends : Bool
  amount : Int
deriving DecidableEq, Inhabited

structure Running where
  month : Int
  amount : Int
  prot : Bool
deriving DecidableEq, Inhabited

instance : Enc Raw where
  size := 3
  cells r := [.bool r.law, .bool r.ends, .int .i64 r.amount]
  len _ := rfl
  one x u h := by simp at h; rcases h with rfl | rfl | rfl <;> rfl
instance : Enc Stage where
  size := 4
  cells r := [.int .i64 r.month, .bool r.law, .bool r.ends, .int .i64 r.amount]
  len _ := rfl
  one x u h := by simp at h; rcases h with rfl | rfl | rfl | rfl <;> rfl
instance : Enc Running where
  size := 3
  cells r := [.int .i64 r.month, .int .i64 r.amount, .bool r.prot]
  len _ := rfl
  one x u h := by simp at h; rcases h with rfl | rfl | rfl <;> rfl

def I64 (n : Int) : Prop := -9223372036854775808 ≤ n ∧ n ≤ 9223372036854775807

/-- Element k, some element where there is none. -/
def at_ {α : Type} [Inhabited α] (l : List α) (k : Nat) : α := l.getD k default
theorem at_some {α : Type} [Inhabited α] {l : List α} {k : Nat} (h : k < l.length) : l[k]? = some (at_ l k) := by
  unfold at_; rw [List.getD_eq_getElem?_getD, List.getElem?_eq_getElem h]; rfl
theorem at_map {α β : Type} [Inhabited β] (f : α → β) (l : List α) {k : Nat} {x : α} (h : l[k]? = some x) : at_ (l.map f) k = f x := by
  unfold at_; rw [List.getD_eq_getElem?_getD, List.getElem?_map, h]; rfl
theorem range_at {n k : Nat} (h : k < n) : (List.range n)[k]? = some k := by simp [h]
theorem ext_at {α : Type} [Inhabited α] {l m : List α} (hl : l.length = m.length) (h : ∀ k, k < l.length → at_ l k = at_ m k) : l = m := by
  refine List.ext_getElem? fun k => ?_
  rcases Nat.lt_or_ge k l.length with hk | hk
  · rw [at_some hk, at_some (show k < m.length by omega), h k hk]
  · rw [List.getElem?_eq_none hk, List.getElem?_eq_none (by omega)]

theorem at_mem {α : Type} [Inhabited α] {Q : α → Prop} {l : List α} (h : ∀ x, x ∈ l → Q x) (i : Nat) (hi : i < l.length) : Q (at_ l i) := by
  have := at_some hi
  exact h _ (List.mem_of_getElem? this)

/-! ### Stages -/

/-- Mod: the remainder, from 0 on. -/
def md (n m : Int) : Int := if n.tmod m < 0 then n.tmod m + m else n.tmod m
theorem md_bd (n m : Int) (h : 0 < m) : 0 ≤ md n m ∧ md n m < m := by
  unfold md
  have h1 := Int.tmod_lt_of_pos n h
  have h2 : -m < n.tmod m := by
    have := Int.tmod_lt_of_pos (-n) h
    rw [Int.neg_tmod] at this
    omega
  split <;> omega

/-- Amount. -/
def am (n : Int) : Int := if md n 8 = 0 then 0 else if md n 8 = 1 then 1000000000000 - md (n.tdiv 8) 1000 else if md n 8 = 2 then md (n.tdiv 8) 1000000000001 else md (n.tdiv 8) 5000
theorem am_bd (n : Int) : 0 ≤ am n ∧ am n ≤ 1000000000000 := by
  unfold am
  have h1 := md_bd (n.tdiv 8) 1000 (by omega)
  have h2 := md_bd (n.tdiv 8) 1000000000001 (by omega)
  have h3 := md_bd (n.tdiv 8) 5000 (by omega)
  split
  · omega
  · split
    · omega
    · split <;> omega
theorem tdiv8 (n : Int) (h : I64 n) : -9223372036854775808 ≤ n.tdiv 8 ∧ n.tdiv 8 ≤ 9223372036854775807 := by
  obtain ⟨h1, h2⟩ := h
  rw [tdiv_eq_if]; split <;> omega

def stg (l : List Raw) (m : Int) (k : Nat) : Stage := ⟨m + k, (at_ l k).law, (at_ l k).ends, am (at_ l k).amount⟩
/-- The first k stages. -/
def stgs (l : List Raw) (m : Int) (k : Nat) : List Stage := (List.range k).map (stg l m)
theorem stgs_succ (l : List Raw) (m : Int) (k : Nat) : stgs l m (k + 1) = stgs l m k ++ [stg l m k] := by simp [stgs, List.range_succ]
theorem stgs_length (l : List Raw) (m : Int) (k : Nat) : (stgs l m k).length = k := by simp [stgs]
theorem stgs_at (l : List Raw) (m : Int) {k i : Nat} (h : i < k) : at_ (stgs l m k) i = stg l m i := at_map _ _ (range_at h)

/-- What Stages returns. -/
def stages (l : List Raw) (month : Int) : List Stage := stgs l (md month 2359) (min l.length 30)

/-! ### valid -/

def okSt (l : List Stage) (i : Nat) : Prop := 0 ≤ (at_ l i).month ∧ (at_ l i).month ≤ 2399 ∧ 0 ≤ (at_ l i).amount ∧ (at_ l i).amount ≤ 1000000000000 ∧ (0 < i → (at_ l i).month = (at_ l (i - 1)).month + 1)
def Valid (l : List Stage) : Prop := l.length ≤ 120 ∧ ∀ i, i < l.length → okSt l i

theorem stages_valid (l : List Raw) (month : Int) : Valid (stages l month) := by
  have hb := md_bd month 2359 (by omega)
  refine ⟨by simp [stages, stgs_length]; omega, fun i hi => ?_⟩
  simp only [stages, stgs_length] at hi
  have ha := am_bd (at_ l i).amount
  unfold okSt
  simp only [stages, stgs_at _ _ hi, stg]
  refine ⟨by omega, by omega, by omega, by omega, fun h0 => ?_⟩
  rw [stgs_at _ _ (show i - 1 < _ by omega)]
  simp only [stg]
  omega

/-! ### Run -/

/-- What is kept, and the amount, after the first k stages. -/
def fl (l : List Stage) : Nat → Int × Int
  | 0 => (0, 0)
  | k + 1 => if (at_ l k).ends then (0, 0) else
    let f := if (at_ l k).law then max (fl l k).1 (fl l k).2 else (fl l k).1
    (f, max (at_ l k).amount f)
def rw_ (l : List Stage) (k : Nat) : Running := ⟨(at_ l k).month, (fl l (k + 1)).2, !(at_ l k).ends && decide ((at_ l k).amount < (fl l (k + 1)).1)⟩
def runs (l : List Stage) (k : Nat) : List Running := (List.range k).map (rw_ l)
theorem runs_succ (l : List Stage) (k : Nat) : runs l (k + 1) = runs l k ++ [rw_ l k] := by simp [runs, List.range_succ]
theorem runs_length (l : List Stage) (k : Nat) : (runs l k).length = k := by simp [runs]
theorem runs_at (l : List Stage) {k i : Nat} (h : i < k) : at_ (runs l k) i = rw_ l i := at_map _ _ (range_at h)
def run (l : List Stage) : List Running := runs l l.length
theorem run_length (l : List Stage) : (run l).length = l.length := runs_length _ _

/-! ### Compress, At -/

def chg (l : List Running) (k : Nat) : Prop := k = 0 ∨ (at_ l k).amount ≠ (at_ l (k - 1)).amount ∨ (at_ l k).prot ≠ (at_ l (k - 1)).prot
instance (l : List Running) (k : Nat) : Decidable (chg l k) := by unfold chg; infer_instance
def cmps (l : List Running) (k : Nat) : List Running := ((List.range k).filter (fun i => decide (chg l i))).map (at_ l)
theorem cmps_yes (l : List Running) (k : Nat) (h : chg l k) : cmps l (k + 1) = cmps l k ++ [at_ l k] := by simp [cmps, List.range_succ, List.filter_append, h]
theorem cmps_no (l : List Running) (k : Nat) (h : ¬ chg l k) : cmps l (k + 1) = cmps l k := by simp [cmps, List.range_succ, List.filter_append, h]
theorem cmps_length (l : List Running) (k : Nat) : (cmps l k).length ≤ k := by
  unfold cmps
  have := List.length_filter_le (fun i => decide (chg l i)) (List.range k)
  simpa using this
def compress (l : List Running) : List Running := cmps l l.length

/-- The best of the first k elements, -1 if there is none. -/
def better (l : List Running) (m : Int) (k : Nat) (j : Int) : Prop := (at_ l k).month ≤ m ∧ (j < 0 ∨ (at_ l j.toNat).month < (at_ l k).month)
instance (l : List Running) (m : Int) (k : Nat) (j : Int) : Decidable (better l m k j) := by unfold better; infer_instance
def best (l : List Running) (m : Int) : Nat → Int
  | 0 => -1
  | k + 1 => if better l m k (best l m k) then (k : Int) else best l m k
theorem best_bd (l : List Running) (m : Int) : ∀ k, -1 ≤ best l m k ∧ best l m k < (k : Int) := by
  intro k
  induction k with
  | zero => simp [best]
  | succ k ih => simp only [best]; split <;> omega
def bestOf (l : List Running) (m : Int) : Int := best l m l.length
/-- What At returns. -/
def atR (l : List Running) (m : Int) : Running := if bestOf l m < 0 then ⟨0, 0, false⟩ else at_ l (bestOf l m).toNat
end Go.Proofs.Yteckaphnapljnaa

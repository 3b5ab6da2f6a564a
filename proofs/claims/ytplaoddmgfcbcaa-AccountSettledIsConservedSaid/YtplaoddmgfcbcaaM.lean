/- The plain data of chapter 28, and what the functions come to: no program in sight but for the cells of each datum. -/
import Derived.Test.YtplaoddmgfcbcaaK6
import Derived.Test.YtplaoddmgfcbcaaK7
namespace Go.Proofs.Ytplaoddmgfcbcaa
open Go

structure Raw where
  gap : Int
  kind : Int
  with_ : Int
  number : Int
  amount : Int
deriving DecidableEq, Inhabited

structure Entry where
  month : Int
  kind : Int
  with_ : Int
  number : Int
  amount : Int
deriving DecidableEq, Inhabited

instance : Enc Raw where
  size := 5
  cells r := [.int .i64 r.gap, .int .i64 r.kind, .int .i64 r.with_, .int .i64 r.number, .int .i64 r.amount]
  len _ := rfl
  one x u h := by simp at h; rcases h with rfl | rfl | rfl | rfl | rfl <;> rfl
instance : Enc Entry where
  size := 5
  cells r := [.int .i64 r.month, .int .i64 r.kind, .int .i64 r.with_, .int .i64 r.number, .int .i64 r.amount]
  len _ := rfl
  one x u h := by simp at h; rcases h with rfl | rfl | rfl | rfl | rfl <;> rfl
instance : Enc Int where
  size := 1
  cells r := [.int .i64 r]
  len _ := rfl
  one x u h := by simp at h; subst h; rfl

abbrev Key := Int × Int × Int
def Entry.key (e : Entry) : Key := (e.kind, e.with_, e.number)
def kv (k : Key) : Value := .agg [Value.int .i64 k.1, .int .i64 k.2.1, .int .i64 k.2.2].toArray

def okE (e : Entry) : Prop := (0 ≤ e.month ∧ e.month ≤ 2399 ∧ 1 ≤ e.amount ∧ e.amount ≤ 1000000000000) ∧ ((e.kind = 1 ∧ e.with_ = 0 ∧ e.number = 0) ∨ ((e.kind = 2 ∨ e.kind = 3) ∧ 0 ≤ e.with_ ∧ e.with_ < 6 ∧ 1 ≤ e.number ∧ e.number ≤ 999))
instance (e : Entry) : Decidable (okE e) := by unfold okE; infer_instance

/-! ### Sums -/
def sumN (es : List Entry) (k : Int) : Nat → Int
  | 0 => 0
  | n + 1 => sumN es k n + if (at_ es n).kind = k then (at_ es n).amount else 0
def sumK (es : List Entry) (k : Int) : Int := sumN es k es.length
theorem sumN_app (es : List Entry) (e : Entry) (k : Int) : ∀ n, n ≤ es.length → sumN (es ++ [e]) k n = sumN es k n
  | 0, _ => rfl
  | n + 1, h => by rw [sumN, sumN, sumN_app es e k n (by omega), at_app_left (by omega)]
theorem sumK_app (es : List Entry) (e : Entry) (k : Int) : sumK (es ++ [e]) k = sumK es k + if e.kind = k then e.amount else 0 := by
  unfold sumK
  rw [List.length_append, List.length_singleton, sumN, sumN_app es e k _ (Nat.le_refl _), at_app_last]
def stl (es : List Entry) : Int := sumK es 1 + sumK es 2 - sumK es 3

/-! ### Counts -/
def cnt : List Entry → Key → Int
  | [], _ => 0
  | e :: es, k => (if e.key = k then 1 else 0) + cnt es k
theorem cnt_app (es : List Entry) (e : Entry) (k : Key) : cnt (es ++ [e]) k = cnt es k + if e.key = k then 1 else 0 := by
  induction es with
  | nil => simp [cnt]
  | cons x es ih => rw [List.cons_append, cnt, cnt, ih, Int.add_assoc]
theorem cnt_bd (es : List Entry) (k : Key) : 0 ≤ cnt es k ∧ cnt es k ≤ es.length := by
  induction es with
  | nil => simp [cnt]
  | cons x es ih => rw [cnt, List.length_cons]; split <;> omega
theorem cnt_pos {es : List Entry} {k : Key} {i : Nat} (hi : i < es.length) (h : (at_ es i).key = k) : 0 < cnt es k := by
  induction es generalizing i with
  | nil => simp at hi
  | cons x es ih =>
    have := cnt_bd es k
    rw [cnt]
    cases i with
    | zero => rw [at_cons_zero] at h; rw [if_pos h]; omega
    | succ i =>
      rw [at_cons_succ] at h
      have := ih (by simpa using hi) h
      split <;> omega
theorem cnt_zero {es : List Entry} {k : Key} (h : ∀ i, i < es.length → (at_ es i).key ≠ k) : cnt es k = 0 := by
  induction es with
  | nil => rfl
  | cons x es ih =>
    have h0 : x.key ≠ k := h 0 (by simp)
    rw [cnt, if_neg h0, ih (fun i hi => by have := h (i + 1) (by simpa using hi); rwa [at_cons_succ] at this)]; rfl

/-! ### Posting -/
def old (es : List Entry) (m : Int) : Prop := (es.any fun x => decide (m < x.month)) = true
instance (es : List Entry) (m : Int) : Decidable (old es m) := by unfold old; infer_instance
theorem old_iff {es : List Entry} {m : Int} : old es m ↔ ∃ i, i < es.length ∧ m < (at_ es i).month := by
  unfold old
  rw [List.any_eq_true]
  constructor
  · rintro ⟨x, hx, h⟩
    obtain ⟨i, hi, rfl⟩ := mem_at hx
    exact ⟨i, hi, by simpa using h⟩
  · rintro ⟨i, hi, h⟩
    exact ⟨_, at_in hi, by simpa using h⟩
def nst (es : List Entry) (e : Entry) : Int := if e.kind = 3 then stl es - e.amount else stl es + e.amount
def wide (v : Int) : Prop := v < -1000000000000 ∨ 1000000000000 < v
instance (v : Int) : Decidable (wide v) := by unfold wide; infer_instance
def perr (es : List Entry) (e : Entry) : Int :=
  if ¬ okE e then 1 else if old es e.month then 13 else if e.kind ≠ 1 ∧ 0 < cnt es e.key then 10 else if wide (nst es e) then 2 else 0
def pnext (es : List Entry) (e : Entry) : List Entry := if perr es e = 0 then es ++ [e] else es
def postsN (es : List Entry) (l : List Entry) : Nat → List Entry
  | 0 => es
  | n + 1 => pnext (postsN es l n) (at_ l n)
def posts (es l : List Entry) : List Entry := postsN es l l.length
def errsN (es l : List Entry) (n : Nat) : List Int := (List.range n).map fun i => perr (postsN es l i) (at_ l i)
def errs (es l : List Entry) : List Int := errsN es l l.length
theorem errsN_succ (es l : List Entry) (n : Nat) : errsN es l (n + 1) = errsN es l n ++ [perr (postsN es l n) (at_ l n)] := by simp [errsN, List.range_succ]
theorem errsN_length (es l : List Entry) (n : Nat) : (errsN es l n).length = n := by simp [errsN]

structure Good (es : List Entry) : Prop where
  valid : ∀ i, i < es.length → okE (at_ es i)
  sorted : ∀ i j, i < j → j < es.length → (at_ es i).month ≤ (at_ es j).month
  bound : -1000000000000 ≤ stl es ∧ stl es ≤ 1000000000000

theorem perr_cases (es : List Entry) (e : Entry) : perr es e = 0 → okE e ∧ ¬ old es e.month ∧ ¬ (e.kind ≠ 1 ∧ 0 < cnt es e.key) ∧ ¬ wide (nst es e) := by
  unfold perr
  intro h
  split at h
  · cases h
  · split at h
    · cases h
    · split at h
      · cases h
      · split at h
        · cases h
        · exact ⟨Decidable.not_not.1 ‹_›, ‹_›, ‹_›, ‹_›⟩
theorem nst_app {es : List Entry} {e : Entry} (h : okE e) : stl (es ++ [e]) = nst es e := by
  obtain ⟨_, h⟩ := h
  unfold nst stl
  rw [sumK_app, sumK_app, sumK_app]
  rcases h with ⟨h, _⟩ | ⟨h | h, _⟩
  · rw [if_pos h, if_neg (by omega), if_neg (by omega), if_neg (by omega)]; omega
  · rw [if_neg (by omega), if_pos h, if_neg (by omega), if_neg (by omega)]; omega
  · rw [if_neg (by omega), if_neg (by omega), if_pos h, if_pos h]; omega
theorem Good.nil : Good [] := ⟨fun i h => by simp at h, fun i j _ h => by simp at h, by decide, by decide⟩
theorem Good.next {es : List Entry} (h : Good es) (e : Entry) : Good (pnext es e) := by
  unfold pnext
  split
  · rename_i h0
    obtain ⟨h1, h2, h3, h4⟩ := perr_cases es e h0
    rw [old_iff] at h2
    refine ⟨fun i hi => ?_, fun i j hij hj => ?_, ?_⟩
    · rw [List.length_append, List.length_singleton] at hi
      rcases Nat.lt_or_ge i es.length with h | h'
      · rw [at_app_left h]; exact ‹Good es›.valid i h
      · obtain rfl : i = es.length := by omega
        rw [at_app_last]; exact h1
    · rw [List.length_append, List.length_singleton] at hj
      rw [at_app_left (show i < es.length by omega)]
      rcases Nat.lt_or_ge j es.length with h' | h'
      · rw [at_app_left h']; exact h.sorted i j hij h'
      · obtain rfl : j = es.length := by omega
        rw [at_app_last]
        have : ¬ e.month < (at_ es i).month := fun hc => h2 ⟨i, by omega, hc⟩
        omega
    · rw [nst_app h1]; unfold wide at h4; omega
  · exact h
theorem pnext_length (es : List Entry) (e : Entry) : (pnext es e).length ≤ es.length + 1 := by unfold pnext; split <;> simp
theorem postsN_length (es l : List Entry) : ∀ n, (postsN es l n).length ≤ es.length + n
  | 0 => Nat.le_refl _
  | n + 1 => by have := postsN_length es l n; have := pnext_length (postsN es l n) (at_ l n); rw [postsN]; omega
theorem Good.posts {es : List Entry} (h : Good es) (l : List Entry) : ∀ n, Good (postsN es l n)
  | 0 => h
  | n + 1 => (Good.posts h l n).next _
theorem postsN_all {Q : Entry → Prop} {es l : List Entry} (h : ∀ x, x ∈ es → Q x) : ∀ n, (∀ i, i < n → Q (at_ l i)) → ∀ x, x ∈ postsN es l n → Q x
  | 0, _, x, hx => h x hx
  | n + 1, hl, x, hx => by
    have ih := postsN_all h n (fun i hi => hl i (by omega))
    rw [postsN, pnext] at hx
    split at hx
    · rcases List.mem_append.1 hx with h1 | h1
      · exact ih x h1
      · simp at h1; subst h1; exact hl n (by omega)
    · exact ih x hx

theorem sumN_bd {es : List Entry} (h : Good es) (k : Int) : ∀ n, n ≤ es.length → 0 ≤ sumN es k n ∧ sumN es k n ≤ n * 1000000000000
  | 0, _ => by simp [sumN]
  | n + 1, hn => by
    have ih := sumN_bd h k n (by omega)
    have hv := (h.valid n (by omega)).1
    rw [sumN]
    split <;> omega
theorem sumK_bd {es : List Entry} (h : Good es) (k : Int) : 0 ≤ sumK es k ∧ sumK es k ≤ es.length * 1000000000000 := sumN_bd h k _ (Nat.le_refl _)

theorem old_last {es : List Entry} (h : Good es) (m : Int) : old es m ↔ 0 < es.length ∧ m < (at_ es (es.length - 1)).month := by
  rw [old_iff]
  constructor
  · rintro ⟨i, hi, hm⟩
    refine ⟨by omega, ?_⟩
    rcases Nat.lt_or_ge i (es.length - 1) with h1 | h1
    · have := h.sorted i (es.length - 1) h1 (by omega); omega
    · obtain rfl : i = es.length - 1 := by omega
      exact hm
  · rintro ⟨h1, h2⟩
    exact ⟨_, by omega, h2⟩

/-! ### Entries of raw numbers -/
def step (r : Raw) : Int := md r.gap 4 - (md r.gap 40).tdiv 39
theorem step_bd (r : Raw) : -1 ≤ step r ∧ step r ≤ 3 := by
  unfold step
  have h1 := md_bd r.gap 4 (by decide)
  have h2 := md_bd r.gap 40 (by decide)
  have h3 : (md r.gap 40).tdiv 39 = md r.gap 40 / 39 := Int.tdiv_eq_ediv_of_nonneg h2.1
  omega
def mon (l : List Raw) : Nat → Int
  | 0 => 1000
  | n + 1 => mon l n + step (at_ l n)
theorem mon_bd (l : List Raw) : ∀ n : Nat, 1000 - (n : Int) ≤ mon l n ∧ mon l n ≤ 1000 + 3 * (n : Int)
  | 0 => by simp [mon]
  | n + 1 => by
    have := mon_bd l n
    have := step_bd (at_ l n)
    rw [mon]; omega
def ent1 (l : List Raw) (k : Nat) : Entry :=
  if 1 + md (at_ l k).kind 3 = 1 then ⟨mon l (k + 1), 1 + md (at_ l k).kind 3, 0, 0, am (at_ l k).amount⟩
  else ⟨mon l (k + 1), 1 + md (at_ l k).kind 3, md (at_ l k).with_ 6, 1 + md (at_ l k).number 20, am (at_ l k).amount⟩
def ents (l : List Raw) (k : Nat) : List Entry := (List.range k).map (ent1 l)
theorem ents_succ (l : List Raw) (k : Nat) : ents l (k + 1) = ents l k ++ [ent1 l k] := by simp [ents, List.range_succ]
theorem ents_length (l : List Raw) (k : Nat) : (ents l k).length = k := by simp [ents]
theorem ents_at (l : List Raw) {k i : Nat} (h : i < k) : at_ (ents l k) i = ent1 l i := at_map _ _ (range_at h)
def entries (l : List Raw) : List Entry := ents l (min l.length 30)
theorem entries_length (l : List Raw) : (entries l).length ≤ 30 := by unfold entries; rw [ents_length]; omega
theorem ent1_month (l : List Raw) (k : Nat) : (ent1 l k).month = mon l (k + 1) := by unfold ent1; split <;> rfl
theorem ent1_kind (l : List Raw) (k : Nat) : (ent1 l k).kind = 1 + md (at_ l k).kind 3 := by unfold ent1; split <;> rfl

/-- The account after the entries of raw numbers. -/
def acc (l : List Raw) : List Entry := posts [] (entries l)
theorem acc_good (l : List Raw) : Good (acc l) := Good.nil.posts _ _
theorem acc_length (l : List Raw) : (acc l).length ≤ 30 := by
  have h1 := postsN_length [] (entries l) (entries l).length
  have h2 := entries_length l
  simp at h1
  unfold acc posts; omega
theorem acc_month (l : List Raw) (i : Nat) (hi : i < (acc l).length) : 970 ≤ (at_ (acc l) i).month ∧ (at_ (acc l) i).month ≤ 1090 := by
  refine at_mem (Q := fun e => 970 ≤ e.month ∧ e.month ≤ 1090) (postsN_all (by simp) _ fun j hj => ?_) i hi
  have hl : (entries l).length = min l.length 30 := ents_length _ _
  have hj' : j < min l.length 30 := by omega
  have := mon_bd l (j + 1)
  unfold entries
  rw [ents_at l hj', ent1_month]
  omega

/-! ### Values in the accounts -/
def errE (e : Int) : Value := .int .i64 e
theorem errs_length (es l : List Entry) : (errs es l).length = l.length := errsN_length _ _ _
end Go.Proofs.Ytplaoddmgfcbcaa

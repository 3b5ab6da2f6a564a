/- What the laws of chapter 23 say of Run and Compress: plain lists and numbers, no program in sight. -/
import Derived.Test.YteckaphnapljnaaM
namespace Go.Proofs.Yteckaphnapljnaa

theorem run_at (s : List Stage) {k : Nat} (h : k < s.length) : at_ (run s) k = rw_ s k := runs_at s h
theorem run_amount_prev (s : List Stage) {k : Nat} (h0 : 0 < k) (h : k ≤ s.length) : (at_ (run s) (k - 1)).amount = (fl s k).2 := by
  rw [run_at s (by omega)]
  simp only [rw_, show k - 1 + 1 = k by omega]

theorem protects (s : List Stage) {k : Nat} (h0 : 0 < k) (h : k < s.length) (hl : (at_ s k).law = true) (he : (at_ s k).ends = false) : (at_ (run s) (k - 1)).amount ≤ (at_ (run s) k).amount := by
  rw [run_amount_prev s h0 (by omega), run_at s h]
  simp only [rw_, fl, he, hl, Bool.false_eq_true, if_false, if_true]
  omega

theorem run_month (s : List Stage) {k : Nat} (h : k < s.length) : (at_ (run s) k).month = (at_ s k).month := by rw [run_at s h]; rfl
theorem run_ends (s : List Stage) {k : Nat} (h : k < s.length) (he : (at_ s k).ends = true) : (at_ (run s) k).amount = 0 ∧ (at_ (run s) k).prot = false := by
  rw [run_at s h]
  simp [rw_, fl, he]
theorem run_goes (s : List Stage) {k : Nat} (h : k < s.length) (he : (at_ s k).ends = false) : (at_ s k).amount ≤ (at_ (run s) k).amount ∧ ((at_ (run s) k).prot = true ↔ (at_ s k).amount < (at_ (run s) k).amount) := by
  rw [run_at s h]
  simp only [rw_, fl, he, Bool.false_eq_true, if_false]
  refine ⟨by omega, ?_⟩
  simp
  omega

/-! ### Without changes of the law -/

def noLaw (x : Stage) : Stage := { x with law := false }
def clr (s : List Stage) (k : Nat) : List Stage := (List.range s.length).map (fun i => if i < k then noLaw (at_ s i) else at_ s i)
theorem clr_length (s : List Stage) (k : Nat) : (clr s k).length = s.length := by simp [clr]
theorem clr_at (s : List Stage) (k : Nat) {i : Nat} (h : i < s.length) : at_ (clr s k) i = if i < k then noLaw (at_ s i) else at_ s i := at_map _ _ (range_at h)
theorem at_set {α : Type} [Inhabited α] (l : List α) (k : Nat) (x : α) {i : Nat} (h : i < l.length) : at_ (l.set k x) i = if i = k then x else at_ l i := by
  unfold at_
  rw [List.getD_eq_getElem?_getD, List.getD_eq_getElem?_getD, List.getElem?_set]
  by_cases e : k = i
  · subst e; simp [h]
  · rw [if_neg e, if_neg (fun h' => e h'.symm)]
theorem clr_zero (s : List Stage) : clr s 0 = s := ext_at (clr_length s 0) (fun k hk => by rw [clr_at s 0 (by rwa [clr_length] at hk)]; simp)
theorem clr_succ (s : List Stage) {k : Nat} (h : k < s.length) : (clr s k).set k (noLaw (at_ s k)) = clr s (k + 1) := by
  refine ext_at (by simp [clr_length]) (fun i hi => ?_)
  have hi' : i < s.length := by simpa [clr_length] using hi
  rw [at_set _ _ _ (by rw [clr_length]; exact hi'), clr_at s k hi', clr_at s (k + 1) hi']
  by_cases e : i = k
  · subst e; simp
  · by_cases h1 : i < k
    · simp [e, h1, show i < k + 1 by omega]
    · simp [e, h1, show ¬ i < k + 1 by omega]
theorem clr_okSt (s : List Stage) (k : Nat) {i : Nat} (hi : i < s.length) (h : okSt s i) : okSt (clr s k) i := by
  unfold okSt at h ⊢
  have e : ∀ j, j < s.length → (at_ (clr s k) j).month = (at_ s j).month ∧ (at_ (clr s k) j).amount = (at_ s j).amount := by
    intro j hj
    rw [clr_at s k hj]
    split <;> exact ⟨rfl, rfl⟩
  obtain ⟨e1, e2⟩ := e i hi
  obtain ⟨e3, e4⟩ := e (i - 1) (by omega)
  rw [e1, e2, e3]
  exact h
theorem clr_valid (s : List Stage) (k : Nat) (h : Valid s) : Valid (clr s k) :=
  ⟨by rw [clr_length]; exact h.1, fun i hi => by rw [clr_length] at hi; exact clr_okSt s k hi (h.2 i hi)⟩
theorem fl_nolaw (s : List Stage) (h : ∀ i, i < s.length → (at_ s i).law = false) : ∀ k, k ≤ s.length → (fl s k).1 = 0 := by
  intro k
  induction k with
  | zero => intro _; rfl
  | succ k ih =>
    intro hk
    simp only [fl]
    split
    · rfl
    · simp [h k (by omega), ih (by omega)]
theorem run_nolaw (s : List Stage) (hv : Valid s) (h : ∀ i, i < s.length → (at_ s i).law = false) {k : Nat} (hk : k < s.length) :
    (at_ (run s) k).amount = (if (at_ s k).ends = true then 0 else (at_ s k).amount) ∧ (at_ (run s) k).prot = false := by
  have h1 := fl_nolaw s h k (by omega)
  have h2 := hv.2 k hk
  unfold okSt at h2
  rw [run_at s hk]
  simp only [rw_, fl, h k hk, h1]
  cases (at_ s k).ends
  · simp; omega
  · simp

/-! ### Prefixes, and what follows an interruption -/

theorem at_take {α : Type} [Inhabited α] (l : List α) (n : Nat) {i : Nat} (h : i < n) : at_ (l.take n) i = at_ l i := by
  unfold at_; rw [List.getD_eq_getElem?_getD, List.getD_eq_getElem?_getD, List.getElem?_take_of_lt h]
theorem at_drop {α : Type} [Inhabited α] (l : List α) (n i : Nat) : at_ (l.drop n) i = at_ l (n + i) := by
  unfold at_; rw [List.getD_eq_getElem?_getD, List.getD_eq_getElem?_getD, List.getElem?_drop]
theorem fl_take (s : List Stage) (n : Nat) : ∀ k, k ≤ n → fl (s.take n) k = fl s k := by
  intro k
  induction k with
  | zero => intro _; rfl
  | succ k ih => intro hk; simp only [fl, at_take s n (show k < n by omega), ih (by omega)]
theorem run_take (s : List Stage) (n : Nat) : run (s.take n) = (run s).take n := by
  refine ext_at (by simp [run_length]) (fun i hi => ?_)
  have hi' : i < (s.take n).length := by simpa [run_length] using hi
  have hin : i < n ∧ i < s.length := by rw [List.length_take] at hi'; omega
  rw [run_at _ hi', at_take _ _ hin.1, run_at _ hin.2]
  simp only [rw_, at_take s n hin.1, fl_take s n (i + 1) (by omega)]
theorem fl_drop (s : List Stage) (n : Nat) (h : fl s n = (0, 0)) : ∀ k, fl (s.drop n) k = fl s (n + k) := by
  intro k
  induction k with
  | zero => rw [Nat.add_zero, h]; rfl
  | succ k ih => rw [show n + (k + 1) = (n + k) + 1 by omega]; simp only [fl, at_drop, ih]
theorem run_drop (s : List Stage) (n : Nat) (h : fl s n = (0, 0)) : run (s.drop n) = (run s).drop n := by
  refine ext_at (by simp [run_length]) (fun i hi => ?_)
  have hi' : i < (s.drop n).length := by simpa [run_length] using hi
  have hin : n + i < s.length := by rw [List.length_drop] at hi'; omega
  rw [run_at _ hi', at_drop, run_at _ hin]
  simp only [rw_, at_drop, fl_drop s n h, show n + i + 1 = n + (i + 1) by omega]
theorem take_valid (s : List Stage) (n : Nat) (h : Valid s) : Valid (s.take n) := by
  refine ⟨by have := h.1; rw [List.length_take]; omega, fun i hi => ?_⟩
  rw [List.length_take] at hi
  have h1 := h.2 i (by omega)
  unfold okSt at h1 ⊢
  rw [at_take s n (show i < n by omega), at_take s n (show i - 1 < n by omega)]
  exact h1
theorem drop_valid (s : List Stage) (n : Nat) (h : Valid s) : Valid (s.drop n) := by
  refine ⟨by have := h.1; rw [List.length_drop]; omega, fun i hi => ?_⟩
  rw [List.length_drop] at hi
  have h1 := h.2 (n + i) (by omega)
  unfold okSt at h1 ⊢
  rw [at_drop, at_drop]
  refine ⟨h1.1, h1.2.1, h1.2.2.1, h1.2.2.2.1, fun h0 => ?_⟩
  have := h1.2.2.2.2 (by omega)
  rw [show n + i - 1 = n + (i - 1) by omega] at this
  exact this
theorem fl_ends (s : List Stage) {n : Nat} (h : (at_ s n).ends = true) : fl s (n + 1) = (0, 0) := by simp [fl, h]

/-! ### Greater amounts -/

theorem fl_mono (s t : List Stage) (hle : ∀ i, (at_ s i).amount ≤ (at_ t i).amount ∧ (at_ s i).law = (at_ t i).law ∧ (at_ s i).ends = (at_ t i).ends) : ∀ k, (fl s k).1 ≤ (fl t k).1 ∧ (fl s k).2 ≤ (fl t k).2 := by
  intro k
  induction k with
  | zero => exact ⟨Int.le_refl _, Int.le_refl _⟩
  | succ k ih =>
    obtain ⟨h1, h2, h3⟩ := hle k
    simp only [fl, h2, h3]
    cases (at_ t k).ends
    · cases (at_ t k).law <;> simp <;> omega
    · simp
theorem run_mono (s t : List Stage) (hlen : s.length = t.length) (hle : ∀ i, (at_ s i).amount ≤ (at_ t i).amount ∧ (at_ s i).law = (at_ t i).law ∧ (at_ s i).ends = (at_ t i).ends) {k : Nat} (h : k < s.length) :
    (at_ (run s) k).amount ≤ (at_ (run t) k).amount := by
  rw [run_at s h, run_at t (by omega)]
  exact (fl_mono s t hle (k + 1)).2

/-! ### One stage turned -/

theorem bad_month (s : List Stage) {k : Nat} (d : Int) (hv : Valid s) (h0 : 0 < k) (hk : k < s.length) (hd : 0 < d) (x : Stage) (hx : x.month = (at_ s k).month + d) : ¬ Valid (s.set k x) := by
  intro h
  have h1 := h.2 k (by simpa using hk)
  have h2 := hv.2 k hk
  unfold okSt at h1 h2
  rw [at_set s k x hk, at_set s k x (show k - 1 < s.length by omega)] at h1
  simp only [if_true, show ¬ k - 1 = k by omega, if_false] at h1
  have := h1.2.2.2.2 h0
  have := h2.2.2.2.2 h0
  omega
theorem bad_amount (s : List Stage) {k : Nat} (hk : k < s.length) (x : Stage) (hx : x.amount < 0 ∨ 1000000000000 < x.amount) : ¬ Valid (s.set k x) := by
  intro h
  have h1 := h.2 k (by simpa using hk)
  unfold okSt at h1
  rw [at_set s k x hk] at h1
  simp only [if_true] at h1
  omega

/-! ### Compress -/

theorem same_between (r : List Running) (p i : Nat) (hpi : p ≤ i) (h : ∀ q, p < q → q ≤ i → ¬ chg r q) : (at_ r i).amount = (at_ r p).amount ∧ (at_ r i).prot = (at_ r p).prot := by
  induction i with
  | zero => have : p = 0 := by omega
            subst this; exact ⟨rfl, rfl⟩
  | succ i ih =>
    by_cases e : p = i + 1
    · subst e; exact ⟨rfl, rfl⟩
    · have h1 := h (i + 1) (by omega) (Nat.le_refl _)
      unfold chg at h1
      simp only [not_or, show i + 1 - 1 = i by omega] at h1
      obtain ⟨h2, h3⟩ := ih (by omega) (fun q h4 h5 => h q h4 (by omega))
      exact ⟨(Decidable.not_not.1 h1.2.1).trans h2, (Decidable.not_not.1 h1.2.2).trans h3⟩

/-- The places that compress keeps. -/
def idx (r : List Running) : List Nat := (List.range r.length).filter (fun i => decide (chg r i))
theorem compress_idx (r : List Running) : compress r = (idx r).map (at_ r) := rfl
theorem idx_mem (r : List Running) (q : Nat) : q ∈ idx r ↔ q < r.length ∧ chg r q := by simp [idx]
theorem idx_lt (r : List Running) {j j' : Nat} (h : j < j') (h' : j' < (idx r).length) : at_ (idx r) j < at_ (idx r) j' := by
  have hp : (idx r).Pairwise (· < ·) := List.Pairwise.filter _ List.pairwise_lt_range
  have := List.pairwise_iff_getElem.1 hp j j' (by omega) h' h
  have e1 := at_some (show j < (idx r).length by omega)
  have e2 := at_some h'
  rw [List.getElem?_eq_getElem (by omega)] at e1
  rw [List.getElem?_eq_getElem h'] at e2
  simp only [Option.some.injEq] at e1 e2
  omega
theorem idx_at_mem (r : List Running) {j : Nat} (h : j < (idx r).length) : at_ (idx r) j < r.length ∧ chg r (at_ (idx r) j) := (idx_mem r _).1 (List.mem_of_getElem? (at_some h))
theorem idx_find (r : List Running) {q : Nat} (hq : q < r.length) (hc : chg r q) : ∃ j, j < (idx r).length ∧ at_ (idx r) j = q := by
  obtain ⟨j, hj, e⟩ := List.getElem_of_mem ((idx_mem r q).2 ⟨hq, hc⟩)
  have := at_some hj
  rw [List.getElem?_eq_getElem hj, e] at this
  exact ⟨j, hj, (Option.some.inj this).symm⟩
theorem compress_len (r : List Running) : (compress r).length = (idx r).length := by rw [compress_idx]; simp
theorem compress_at (r : List Running) {j : Nat} (h : j < (compress r).length) : at_ (compress r) j = at_ r (at_ (idx r) j) := by
  rw [compress_len] at h
  rw [compress_idx]
  exact at_map _ _ (at_some h)

/-- Over rising months: the last one that is early enough. -/
theorem best_rising (c : List Running) (m : Int) (hinc : ∀ j j', j < j' → j' < c.length → (at_ c j).month < (at_ c j').month) : ∀ k, k ≤ c.length →
    (best c m k = -1 ∧ ∀ j, j < k → m < (at_ c j).month) ∨ ∃ j, j < k ∧ best c m k = (j : Int) ∧ (at_ c j).month ≤ m ∧ ∀ j', j < j' → j' < k → m < (at_ c j').month := by
  intro k
  induction k with
  | zero => intro _; exact .inl ⟨rfl, fun j hj => by omega⟩
  | succ k ih =>
    intro hk
    by_cases hm : (at_ c k).month ≤ m
    · refine .inr ⟨k, by omega, ?_, hm, fun j' h1 h2 => by omega⟩
      simp only [best]
      rw [if_pos]
      unfold better
      refine ⟨hm, ?_⟩
      rcases ih (by omega) with ⟨h1, _⟩ | ⟨j, hj, h1, _⟩
      · left; omega
      · right; rw [h1]; exact hinc j k hj (by omega)
    · have hn : ¬ better c m k (best c m k) := by unfold better; exact fun h => hm h.1
      have e : best c m (k + 1) = best c m k := by simp only [best]; rw [if_neg hn]
      rw [e]
      rcases ih (by omega) with ⟨h1, h2⟩ | ⟨j, hj, h1, h2, h3⟩
      · exact .inl ⟨h1, fun j hj => by
          by_cases e : j = k
          · subst e; omega
          · exact h2 j (by omega)⟩
      · exact .inr ⟨j, by omega, h1, h2, fun j' h4 h5 => by
          by_cases e : j' = k
          · subst e; omega
          · exact h3 j' h4 (by omega)⟩

/-- Months one by one. -/
def Steps1 (r : List Running) : Prop := ∀ i, i < r.length → (at_ r i).month = (at_ r 0).month + i
theorem run_steps (s : List Stage) (hv : Valid s) : Steps1 (run s) := by
  intro i hi
  rw [run_length] at hi
  induction i with
  | zero => simp
  | succ i ih =>
    rw [run_month s hi]
    have h1 := hv.2 (i + 1) hi
    unfold okSt at h1
    have h2 := h1.2.2.2.2 (by omega)
    have h3 := ih (by omega)
    rw [run_month s (show i < s.length by omega)] at h3
    rw [h2, show i + 1 - 1 = i by omega, h3]
    omega
theorem compress_inc (r : List Running) (hs : Steps1 r) (j j' : Nat) (h : j < j') (h' : j' < (compress r).length) : (at_ (compress r) j).month < (at_ (compress r) j').month := by
  rw [compress_at r h', compress_at r (show j < _ by omega)]
  rw [compress_len] at h'
  have h1 := idx_lt r h h'
  have h2 := (idx_at_mem r h').1
  rw [hs _ h2, hs _ (show at_ (idx r) j < r.length by omega)]
  omega
theorem zero_chg (r : List Running) : chg r 0 := .inl rfl

/-- At over what Compress leaves tells every month. -/
theorem at_compress (r : List Running) (hs : Steps1 r) {i : Nat} (hi : i < r.length) :
    0 ≤ bestOf (compress r) (at_ r i).month ∧ (atR (compress r) (at_ r i).month).amount = (at_ r i).amount ∧ (atR (compress r) (at_ r i).month).prot = (at_ r i).prot := by
  rcases best_rising (compress r) (at_ r i).month (compress_inc r hs) (compress r).length (Nat.le_refl _) with ⟨_, h2⟩ | ⟨j, hj, h1, h2, h3⟩
  · obtain ⟨j0, hj0, e0⟩ := idx_find r (show 0 < r.length by omega) (zero_chg r)
    have h3 := h2 j0 (by rw [compress_len]; exact hj0)
    rw [compress_at r (by rw [compress_len]; exact hj0), e0, hs i hi] at h3
    omega
  · have hji : j < (idx r).length := by rwa [compress_len] at hj
    have hp := idx_at_mem r hji
    rw [compress_at r hj, hs _ hp.1, hs i hi] at h2
    have hb : bestOf (compress r) (at_ r i).month = (j : Int) := h1
    have hat : atR (compress r) (at_ r i).month = at_ r (at_ (idx r) j) := by
      unfold atR
      rw [hb, if_neg (by omega), Int.toNat_natCast, compress_at r hj]
    have hsame := same_between r (at_ (idx r) j) i (by omega) (fun q h4 h5 hq => by
      obtain ⟨j', hj', e'⟩ := idx_find r (show q < r.length by omega) hq
      have hjj : j < j' := by
        rcases Nat.lt_or_ge j j' with h6 | h6
        · exact h6
        · exfalso
          rcases Nat.lt_or_ge j' j with h7 | h7
          · have := idx_lt r h7 hji
            omega
          · have : j' = j := by omega
            subst this; omega
      have h8 := h3 j' hjj (by rw [compress_len]; exact hj')
      rw [compress_at r (by rw [compress_len]; exact hj'), e', hs q (by omega), hs i hi] at h8
      omega)
    rw [hat, hb]
    exact ⟨by omega, hsame.1.symm, hsame.2.symm⟩

/-- Before the first month there is nothing. -/
theorem at_before (r : List Running) (hs : Steps1 r) : bestOf (compress r) ((at_ r 0).month - 1) < 0 := by
  rcases best_rising (compress r) ((at_ r 0).month - 1) (compress_inc r hs) (compress r).length (Nat.le_refl _) with ⟨h1, _⟩ | ⟨j, hj, h1, h2, _⟩
  · unfold bestOf; omega
  · have hji : j < (idx r).length := by rwa [compress_len] at hj
    rw [compress_at r hj, hs _ (idx_at_mem r hji).1] at h2
    omega

/-- No two neighbours are alike. -/
theorem compress_unlike (r : List Running) (hs : Steps1 r) {k : Nat} (h0 : 0 < k) (h : k < (compress r).length) :
    ¬ ((at_ (compress r) k).amount = (at_ (compress r) (k - 1)).amount ∧ (at_ (compress r) k).prot = (at_ (compress r) (k - 1)).prot) := by
  have hk : k < (idx r).length := by rwa [compress_len] at h
  rw [compress_at r h, compress_at r (show k - 1 < _ by omega)]
  have hc := idx_at_mem r hk
  have hlt := idx_lt r (show k - 1 < k by omega) hk
  have hsame := same_between r (at_ (idx r) (k - 1)) (at_ (idx r) k - 1) (by omega) (fun q h4 h5 hq => by
    obtain ⟨j', hj', e'⟩ := idx_find r (show q < r.length by omega) hq
    rcases Nat.lt_or_ge j' k with h6 | h6
    · rcases Nat.lt_or_ge j' (k - 1) with h7 | h7
      · have := idx_lt r h7 (show k - 1 < (idx r).length by omega)
        omega
      · have : j' = k - 1 := by omega
        subst this; omega
    · rcases Nat.lt_or_ge k j' with h7 | h7
      · have := idx_lt r h7 hj'
        omega
      · have : j' = k := by omega
        subst this; omega)
  rintro ⟨h1, h2⟩
  rcases hc.2 with h3 | h3 | h3
  · omega
  · exact h3 (h1.trans hsame.1.symm)
  · exact h3 (h2.trans hsame.2.symm)
theorem compress_nil : compress [] = [] := rfl
end Go.Proofs.Yteckaphnapljnaa

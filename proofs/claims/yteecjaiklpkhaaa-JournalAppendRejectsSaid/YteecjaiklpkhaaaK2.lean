/-
  One operation at a time, over the words of K1: plain regions, and regions that draw their order.
-/
import Derived.Test.YteecjaiklpkhaaaK1
namespace Go.Proofs.Yteecjaiklpkhaaa
open Go

/-- Is the operation wanted, as its guard reads in the slots? -/
def gd (l : List Oper) (L : List (Nat × Value)) (o : Oper) : Option Bool :=
  match o.guard with
  | none => some true
  | some (j, want) => match (l[j]?).bind (·.dst) with
    | some d => match get L d with
      | some (.bool t) => some (t == want)
      | some (.tuple _) => some false
      | _ => none
    | none => none

theorem gd_wanted {l : List Oper} {N : Nat} {L : List (Nat × Value)} {o : Oper} {a : Act} {t : Bool} (hg : gd l L o = some t) (hf : Fit N L a) : Region.wanted o (yielded l.toArray a.tmps) = t := by
  unfold gd at hg
  unfold Region.wanted
  split at hg
  · rename_i h0
    simp only [Option.some.injEq] at hg
    rw [h0]; exact hg
  · rename_i j want h0
    rw [h0]
    split at hg
    · rename_i d hd
      have hd' : (l.toArray[j]?).bind (·.dst) = some d := by simpa using hd
      split at hg
      · rename_i u hu
        simp only [Option.some.injEq] at hg
        simp only [yielded, hd', Option.bind_some, hf.val d _ hu]
        subst hg
        cases u <;> cases want <;> rfl
      · rename_i u hu
        simp only [Option.some.injEq] at hg
        simp only [yielded, hd', Option.bind_some, hf.val d _ hu]
        subst hg
        cases want <;> rfl
      · cases hg
    · cases hg

/-- The operation only reads: it yields v. -/
def Yl (P : Program) (N : Nat) (L : List (Nat × Value)) (o : Oper) (v : Value) (H : List Asr) : Prop :=
  ∀ a b w, Fit N L a → Holds b H w → (execOp a.eval o).run P w = .ok (.value v) w

/-- It yields the truth of p. -/
def Yp (P : Program) (N : Nat) (L : List (Nat × Value)) (o : Oper) (p : Prop) (H : List Asr) : Prop :=
  (p → Yl P N L o (.bool true) H) ∧ (¬ p → Yl P N L o (.bool false) H)

/-- It turns the heap. -/
def Ef (P : Program) (N : Nat) (L : List (Nat × Value)) (o : Oper) (b : World) (H : List Asr) (R : Value → List Asr → Prop) : Prop :=
  ∀ a w, Fit N L a → Holds b H w → ∃ v w' H', (execOp a.eval o).run P w = .ok (.value v) w' ∧ R v H' ∧ Holds b H' w'

/-- It turns the heap and yields nothing. -/
def Es (P : Program) (N : Nat) (L : List (Nat × Value)) (o : Oper) (b : World) (H H' : List Asr) : Prop :=
  ∀ a w, Fit N L a → Holds b H w → ∃ w', (execOp a.eval o).run P w = .ok .skip w' ∧ Holds b H' w'

/-- It enters a function. -/
def En (P : Program) (N : Nat) (L : List (Nat × Value)) (o : Oper) (f : FuncId) (args : List Value) : Prop :=
  ∀ a w, Fit N L a → (execOp a.eval o).run P w = .ok (.enter f args.toArray) w

theorem Yl.weak {P : Program} {N : Nat} {L : List (Nat × Value)} {o : Oper} {v : Value} {H Hr : List Asr} (h : Yl P N L o v H) : Yl P N L o v (Hr ++ H) :=
  fun a b w hf hw => h a b w hf hw.append_right

/-! ### Plain regions -/

def WL (P : Program) (l : List Oper) (Q : Exit → Act → World → Prop) (N : Nat) (rest : List Oper) (L : List (Nat × Value)) (b : World) (H : List Asr) : Prop :=
  ∀ a w, Fit N L a → Holds b H w → wpList P l.toArray Q rest a w

section wl
variable {P : Program} {l rest : List Oper} {Q : Exit → Act → World → Prop} {N : Nat} {L : List (Nat × Value)} {b : World} {H : List Asr} {o : Oper} {d : Nat} {v : Value}

theorem wl_nil {f : FuncId} {R : Ending → World → Prop} {k : List Item} (h : At P f R N k L b H) : WL P l (Kont P f R k) N [] L b H := fun a w hf hw => h a w hf hw

theorem wl_read (hg : gd l L o = some true) (hd : o.dst = some d) (hN : Nat.blt d N = true) (h : Yl P N L o v H) (next : WL P l Q N rest ((d, v) :: L) b H) : WL P l Q N (o :: rest) L b H := by
  intro a w hf hw
  have hw' := gd_wanted hg hf
  simp only [wpList, hw', if_true]
  refine .inl ?_
  simp only [Oper.wp, h a b w hf hw, Oper.upon_value, hd]
  exact next _ _ (hf.put hN v) hw

theorem wl_split {p : Prop} (hg : gd l L o = some true) (hd : o.dst = some d) (hN : Nat.blt d N = true) (h : Yp P N L o p H) (h1 : p → WL P l Q N rest ((d, .bool true) :: L) b H)
    (h2 : ¬ p → WL P l Q N rest ((d, .bool false) :: L) b H) : WL P l Q N (o :: rest) L b H := by
  by_cases hp : p
  · exact wl_read hg hd hN (h.1 hp) (h1 hp)
  · exact wl_read hg hd hN (h.2 hp) (h2 hp)

theorem wl_splitB {t : Bool} (hg : gd l L o = some true) (hd : o.dst = some d) (hN : Nat.blt d N = true) (h : Yl P N L o (.bool t) H) (h1 : t = true → WL P l Q N rest ((d, .bool true) :: L) b H)
    (h2 : t = false → WL P l Q N rest ((d, .bool false) :: L) b H) : WL P l Q N (o :: rest) L b H := by
  cases t
  · exact wl_read hg hd hN h (h2 rfl)
  · exact wl_read hg hd hN h (h1 rfl)

theorem wl_skip (hg : gd l L o = some false) (hd : o.dst = some d) (hN : Nat.blt d N = true) (next : WL P l Q N rest ((d, undef) :: L) b H) : WL P l Q N (o :: rest) L b H := by
  intro a w hf hw
  have hw' := gd_wanted hg hf
  simp only [wpList, hw', Bool.false_eq_true, if_false, hd]
  exact next _ _ (hf.put hN undef) hw

theorem wl_skip0 (hg : gd l L o = some false) (hd : o.dst = none) (next : WL P l Q N rest L b H) : WL P l Q N (o :: rest) L b H := by
  intro a w hf hw
  have hw' := gd_wanted hg hf
  simp only [wpList, hw', Bool.false_eq_true, if_false, hd]
  exact next _ _ hf hw

theorem wl_eff {R : Value → List Asr → Prop} (hg : gd l L o = some true) (hd : o.dst = some d) (hN : Nat.blt d N = true) (h : Ef P N L o b H R)
    (next : ∀ v H', R v H' → WL P l Q N rest ((d, v) :: L) b H') : WL P l Q N (o :: rest) L b H := by
  intro a w hf hw
  have hw' := gd_wanted hg hf
  obtain ⟨v, w', H', hr, hR, hh⟩ := h a w hf hw
  simp only [wpList, hw', if_true]
  refine .inl ?_
  simp only [Oper.wp, hr, Oper.upon_value, hd]
  exact next v H' hR _ _ (hf.put hN v) hh

theorem wl_store {H' : List Asr} (hg : gd l L o = some true) (hd : o.dst = none) (h : Es P N L o b H H') (next : WL P l Q N rest L b H') : WL P l Q N (o :: rest) L b H := by
  intro a w hf hw
  have hw' := gd_wanted hg hf
  obtain ⟨w', hr, hh⟩ := h a w hf hw
  simp only [wpList, hw', if_true]
  refine .inl ?_
  simp only [Oper.wp, hr, Oper.upon_skip, hd]
  exact next _ _ hf hh

theorem wl_call {f : FuncId} {args : List Value} {R : Value → List Asr → Prop} (hg : gd l L o = some true) (hd : o.dst = some d) (hN : Nat.blt d N = true) (he : okCall P f = true → En P N L o f args) (h : Fn P f args b H R)
    (next : ∀ v H', R v H' → WL P l Q N rest ((d, v) :: L) b H') : WL P l Q N (o :: rest) L b H := by
  intro a w hf hw
  have hw' := gd_wanted hg hf
  simp only [wpList, hw', if_true]
  refine .inl ?_
  simp only [Oper.wp, he h.1 a w hf, Oper.upon_enter]
  refine (h.2 w hw).mono ?_
  rintro e w' ⟨v, H', rfl, hR, hh⟩
  simp only [hd]
  exact next v H' hR _ _ (hf.put hN v) hh

theorem wl_call0 {f : FuncId} {args : List Value} {R : Value → List Asr → Prop} (hg : gd l L o = some true) (hd : o.dst = none) (he : okCall P f = true → En P N L o f args) (h : Fn P f args b H R)
    (next : ∀ v H', R v H' → WL P l Q N rest L b H') : WL P l Q N (o :: rest) L b H := by
  intro a w hf hw
  have hw' := gd_wanted hg hf
  simp only [wpList, hw', if_true]
  refine .inl ?_
  simp only [Oper.wp, he h.1 a w hf, Oper.upon_enter]
  refine (h.2 w hw).mono ?_
  rintro e w' ⟨v, H', rfl, hR, hh⟩
  simp only [hd]
  exact next v H' hR _ _ hf hh

theorem wl_keep {L' : List (Nat × Value)} (hk : Keep L L') (h : WL P l Q N rest L' b H) : WL P l Q N rest L b H := fun a w hf hw => h a w (hf.keep hk) hw
theorem wl_heap {H' : List Asr} (hh : ∀ w, Holds b H w → Holds b H' w) (h : WL P l Q N rest L b H') : WL P l Q N rest L b H := fun a w hf hw => h a w hf (hh w hw)
theorem wl_know {p : Prop} (hp : ∀ w, Holds b H w → p) (h : p → WL P l Q N rest L b H) : WL P l Q N rest L b H := fun a w hf hw => h (hp w hw) a w hf hw
end wl

theorem at_region {P : Program} {f : FuncId} {R : Ending → World → Prop} {N : Nat} {k : List Item} {L : List (Nat × Value)} {b : World} {H : List Asr} {id : Nat} {l : List Oper}
    (h : WL P l (Kont P f R k) N l L b H) : At P f R N (.code (.region id l.toArray false) :: k) L b H :=
  fun a w hf hw => goOn_of_wp (wp_region_lit (h a w hf hw))

/-! ### Regions that draw their order -/

/-- A way through the operations: those that only read as they come up (fl), the others one by one (ef), or either of two (ef2). -/
inductive Tr where
  | nil
  | fl (i : Nat) (r : Tr)
  | ef (i : Nat) (r : Tr)
  | ef2 (i : Nat) (r : Tr) (j : Nat) (s : Tr)

def waits (md : Region.Mode) (oi : Oper) (j : Nat) : Bool := oi.after.any fun e => Region.binds md e && e.on == j

/-- Of whatever two operations one waits for the other, or they are apart. -/
def okB (md : Region.Mode) (ops : Array Oper) : Bool :=
  (List.range ops.size).all fun i => match ops[i]? with
    | none => true
    | some oi => (List.range ops.size).all fun j => match ops[j]? with
      | none => true
      | some oj => i == j || waits md oj i || waits md oi j || oi.apart ops oj

def trB (md : Region.Mode) (ops : Array Oper) : Tr → Nat → Array Bool → Bool
  | .nil, _, listed => (Region.ready md ops listed).isEmpty
  | .fl i r, f + 1, listed => (Region.ready md ops listed).contains i && trB md ops r f (listed.setIfInBounds i true)
  | .ef i r, f + 1, listed => Region.ready md ops listed == [i] && trB md ops r f (listed.setIfInBounds i true)
  | .ef2 i r j s, f + 1, listed => Region.ready md ops listed == [i, j] && trB md ops r f (listed.setIfInBounds i true) && trB md ops s f (listed.setIfInBounds j true)
  | _, 0, _ => false

def wpT (P : Program) (ops : Array Oper) (Q : Exit → Act → World → Prop) (S : World → Prop) : Tr → Act → World → Prop
  | .nil, a, w => Q .normal a w
  | .fl i r, a, w => ∃ o v, ops[i]? = some o ∧ YieldsIf P ops S o v a ∧ wpT P ops Q S r (a.put o.dst v) w
  | .ef i r, a, w => wpOp P ops Q i (fun a' w' => S w' ∧ wpT P ops Q S r a' w') a w
  | .ef2 i r j s, a, w => wpOp P ops Q i (fun a' w' => S w' ∧ wpT P ops Q S r a' w') a w ∧ wpOp P ops Q j (fun a' w' => S w' ∧ wpT P ops Q S s a' w') a w

theorem getD_un {listed : Array Bool} {i : Nat} (h : listed.getD i true = false) : listed.getD i false = false := by
  rcases Nat.lt_or_ge i listed.size with h' | h'
  · simp [h'] at h ⊢; exact h
  · simp [Array.getElem?_eq_none h'] at h

theorem free_of_ok {md : Region.Mode} {ops : Array Oper} {listed : Array Bool} {i : Nat} (hok : okB md ops = true) (hr : i ∈ Region.ready md ops listed) : Region.free md ops listed i = true := by
  obtain ⟨hun, oi, hoi, hall⟩ := mem_ready.1 hr
  have hil : i < ops.size := (Array.getElem?_eq_some_iff.1 hoi).1
  unfold Region.free
  rw [hoi]
  rw [List.all_eq_true]
  intro j hj
  have hjl := List.mem_range.1 hj
  unfold okB at hok
  rw [List.all_eq_true] at hok
  have h1 := hok i (List.mem_range.2 hil)
  rw [hoi] at h1
  simp only [List.all_eq_true] at h1
  have h2 := h1 j hj
  cases hoj : ops[j]? with
  | none => simp
  | some oj =>
    rw [hoj] at h2
    simp only [Bool.or_eq_true, beq_iff_eq] at h2 ⊢
    rcases h2 with ((h2 | h2) | h2) | h2
    · exact .inl (.inl h2.symm)
    · exact .inr (.inl h2)
    · refine .inl (.inr ?_)
      unfold waits at h2
      obtain ⟨e, he, hb⟩ := Array.any_eq_true'.1 h2
      simp only [Bool.and_eq_true, beq_iff_eq] at hb
      have h3 := hall e he hb.1
      rw [hb.2] at h3
      cases h4 : listed.getD j true with
      | true => rfl
      | false => rw [getD_un h4] at h3; cases h3
    · exact .inr (.inr h2)

theorem wpAnyH_of_wpT {P : Program} {ops : Array Oper} {Q : Exit → Act → World → Prop} {S : World → Prop} {md : Region.Mode} (hs : Region.noSelect ops = true) (hok : okB md ops = true) (hQ : ∀ c a w, ¬ Q (.panic c) a w) :
    ∀ (t : Tr) (fuel : Nat) (listed : Array Bool) (a : Act) (w : World), trB md ops t fuel listed = true → S w → wpT P ops Q S t a w → wpAnyH P md ops Q S fuel listed a w
  | .nil, fuel, listed, a, w, hb, _, h => by
    have hr : Region.ready md ops listed = [] := by simpa [trB] using hb
    cases fuel with
    | zero => exact ⟨hr, h⟩
    | succ f => exact ⟨fun _ => h, by rw [hr]; simp⟩
  | .fl i r, 0, listed, a, w, hb, _, h => by simp [trB] at hb
  | .fl i r, f + 1, listed, a, w, hb, hS, h => by
    simp only [trB, Bool.and_eq_true] at hb
    obtain ⟨o, v, hi, hy, hn⟩ := h
    have hr : i ∈ Region.ready md ops listed := by simpa using hb.1
    exact wpAnyH_take hi hs (free_of_ok hok hr) hb.1 (fun c a' w' hq => (hQ c _ _ hq).elim) hy hS (wpAnyH_of_wpT hs hok hQ r f _ _ _ hb.2 hS hn)
  | .ef i r, 0, listed, a, w, hb, _, h => by simp [trB] at hb
  | .ef i r, f + 1, listed, a, w, hb, _, h => by
    simp only [trB, Bool.and_eq_true, beq_iff_eq] at hb
    refine ⟨fun h0 => (by rw [hb.1] at h0; cases h0), fun j hj => ?_⟩
    rw [hb.1] at hj
    have : j = i := by simpa using hj
    subst this
    exact wpOp_mono (fun a' w' h' => ⟨h'.1, wpAnyH_of_wpT hs hok hQ r f _ a' w' hb.2 h'.1 h'.2⟩) h
  | .ef2 i r j s, 0, listed, a, w, hb, _, h => by simp [trB] at hb
  | .ef2 i r j s, f + 1, listed, a, w, hb, _, h => by
    simp only [trB, Bool.and_eq_true, beq_iff_eq] at hb
    refine ⟨fun h0 => (by rw [hb.1.1] at h0; cases h0), fun m hm => ?_⟩
    rw [hb.1.1] at hm
    have : m = i ∨ m = j := by simpa using hm
    rcases this with e | e
    · subst e; exact wpOp_mono (fun a' w' h' => ⟨h'.1, wpAnyH_of_wpT hs hok hQ r f _ a' w' hb.1.2 h'.1 h'.2⟩) h.1
    · subst e; exact wpOp_mono (fun a' w' h' => ⟨h'.1, wpAnyH_of_wpT hs hok hQ s f _ a' w' hb.2 h'.1 h'.2⟩) h.2

def SS (b : World) (Hk : List Asr) (w : World) : Prop := ∃ Hr, Holds b (Hr ++ Hk) w

def WT (P : Program) (l : List Oper) (Q : Exit → Act → World → Prop) (N : Nat) (t : Tr) (L : List (Nat × Value)) (b : World) (H Hk : List Asr) : Prop :=
  ∀ a w, Fit N L a → Holds b H w → wpT P l.toArray Q (SS b Hk) t a w

section wt
variable {P : Program} {l : List Oper} {Q : Exit → Act → World → Prop} {N : Nat} {L : List (Nat × Value)} {b : World} {H Hk : List Asr} {o : Oper} {d i : Nat} {v : Value} {r : Tr}

theorem wt_nil {f : FuncId} {R : Ending → World → Prop} {k : List Item} (h : At P f R N k L b H) : WT P l (Kont P f R k) N .nil L b H Hk := fun a w hf hw => h a w hf hw

theorem wt_read (hi : l[i]? = some o) (hg : gd l L o = some true) (hd : o.dst = some d) (hN : Nat.blt d N = true) (h : Yl P N L o v Hk) (next : WT P l Q N r ((d, v) :: L) b H Hk) : WT P l Q N (.fl i r) L b H Hk := by
  intro a w hf hw
  refine ⟨o, v, by simpa using hi, .inl ⟨gd_wanted hg hf, fun w' ⟨Hr, hS⟩ => h a b w' hf hS.append_right⟩, ?_⟩
  rw [hd]
  exact next _ _ (hf.put hN v) hw

theorem wt_split {p : Prop} (hi : l[i]? = some o) (hg : gd l L o = some true) (hd : o.dst = some d) (hN : Nat.blt d N = true) (h : Yp P N L o p Hk) (h1 : p → WT P l Q N r ((d, .bool true) :: L) b H Hk)
    (h2 : ¬ p → WT P l Q N r ((d, .bool false) :: L) b H Hk) : WT P l Q N (.fl i r) L b H Hk := by
  by_cases hp : p
  · exact wt_read hi hg hd hN (h.1 hp) (h1 hp)
  · exact wt_read hi hg hd hN (h.2 hp) (h2 hp)

theorem wt_splitB {t : Bool} (hi : l[i]? = some o) (hg : gd l L o = some true) (hd : o.dst = some d) (hN : Nat.blt d N = true) (h : Yl P N L o (.bool t) Hk) (h1 : t = true → WT P l Q N r ((d, .bool true) :: L) b H Hk)
    (h2 : t = false → WT P l Q N r ((d, .bool false) :: L) b H Hk) : WT P l Q N (.fl i r) L b H Hk := by
  cases t
  · exact wt_read hi hg hd hN h (h2 rfl)
  · exact wt_read hi hg hd hN h (h1 rfl)

theorem wt_skip (hi : l[i]? = some o) (hg : gd l L o = some false) (hd : o.dst = some d) (hN : Nat.blt d N = true) (next : WT P l Q N r ((d, undef) :: L) b H Hk) : WT P l Q N (.fl i r) L b H Hk := by
  intro a w hf hw
  refine ⟨o, undef, by simpa using hi, .inr ⟨gd_wanted hg hf, rfl⟩, ?_⟩
  rw [hd]
  exact next _ _ (hf.put hN undef) hw

/-- A reading that is not taken first: what it reads the region turns later. -/
theorem wt_readE (hi : l[i]? = some o) (hg : gd l L o = some true) (hd : o.dst = some d) (hN : Nat.blt d N = true) (h : Yl P N L o v H) (hS : ∃ Hr, H = Hr ++ Hk) (next : WT P l Q N r ((d, v) :: L) b H Hk) : WT P l Q N (.ef i r) L b H Hk := by
  intro a w hf hw
  have hw' := gd_wanted hg hf
  have hi' : l.toArray[i]? = some o := by simpa using hi
  obtain ⟨Hr, e⟩ := hS
  simp only [wpT, wpOp, hi', hw', if_true]
  refine .inl ?_
  simp only [Oper.wp, h a b w hf hw, Oper.upon_value, hd]
  exact ⟨⟨Hr, e ▸ hw⟩, next _ _ (hf.put hN v) hw⟩

/-- A guarded call that is passed over. -/
theorem wt_skipE (hi : l[i]? = some o) (hg : gd l L o = some false) (hd : o.dst = some d) (hN : Nat.blt d N = true) (hS : ∃ Hr, H = Hr ++ Hk) (next : WT P l Q N r ((d, undef) :: L) b H Hk) : WT P l Q N (.ef i r) L b H Hk := by
  intro a w hf hw
  have hw' := gd_wanted hg hf
  have hi' : l.toArray[i]? = some o := by simpa using hi
  obtain ⟨Hr, e⟩ := hS
  simp only [wpT, wpOp, hi', hw', Bool.false_eq_true, if_false, hd]
  exact ⟨⟨Hr, e ▸ hw⟩, next _ _ (hf.put hN undef) hw⟩

theorem wt_eff {R : Value → List Asr → Prop} (hi : l[i]? = some o) (hg : gd l L o = some true) (hd : o.dst = some d) (hN : Nat.blt d N = true) (h : Ef P N L o b H R)
    (next : ∀ v H', R v H' → (∃ Hr, H' = Hr ++ Hk) ∧ WT P l Q N r ((d, v) :: L) b H' Hk) : WT P l Q N (.ef i r) L b H Hk := by
  intro a w hf hw
  have hw' := gd_wanted hg hf
  have hi' : l.toArray[i]? = some o := by simpa using hi
  obtain ⟨v, w', H', hr, hR, hh⟩ := h a w hf hw
  obtain ⟨⟨Hr, e⟩, hn⟩ := next v H' hR
  simp only [wpT, wpOp, hi', hw', if_true]
  refine .inl ?_
  simp only [Oper.wp, hr, Oper.upon_value, hd]
  exact ⟨⟨Hr, e ▸ hh⟩, hn _ _ (hf.put hN v) hh⟩

theorem wt_store {H' : List Asr} (hi : l[i]? = some o) (hg : gd l L o = some true) (hd : o.dst = none) (h : Es P N L o b H H') (hS : ∃ Hr, H' = Hr ++ Hk) (next : WT P l Q N r L b H' Hk) : WT P l Q N (.ef i r) L b H Hk := by
  intro a w hf hw
  have hw' := gd_wanted hg hf
  have hi' : l.toArray[i]? = some o := by simpa using hi
  obtain ⟨w', hr, hh⟩ := h a w hf hw
  obtain ⟨Hr, e⟩ := hS
  simp only [wpT, wpOp, hi', hw', if_true]
  refine .inl ?_
  simp only [Oper.wp, hr, Oper.upon_skip, hd]
  exact ⟨⟨Hr, e ▸ hh⟩, next _ _ hf hh⟩

theorem wt_call {f : FuncId} {args : List Value} {R : Value → List Asr → Prop} (hi : l[i]? = some o) (hg : gd l L o = some true) (hd : o.dst = some d) (hN : Nat.blt d N = true) (he : okCall P f = true → En P N L o f args) (h : Fn P f args b H R)
    (next : ∀ v H', R v H' → (∃ Hr, H' = Hr ++ Hk) ∧ WT P l Q N r ((d, v) :: L) b H' Hk) : WT P l Q N (.ef i r) L b H Hk := by
  intro a w hf hw
  have hw' := gd_wanted hg hf
  have hi' : l.toArray[i]? = some o := by simpa using hi
  simp only [wpT, wpOp, hi', hw', if_true]
  refine .inl ?_
  simp only [Oper.wp, he h.1 a w hf, Oper.upon_enter]
  refine (h.2 w hw).mono ?_
  rintro e w' ⟨v, H', rfl, hR, hh⟩
  obtain ⟨⟨Hr, e⟩, hn⟩ := next v H' hR
  simp only [hd]
  exact ⟨⟨Hr, e ▸ hh⟩, hn _ _ (hf.put hN v) hh⟩

/-- Two that may come up. -/
theorem wt_two {j : Nat} {s : Tr} (h1 : WT P l Q N (.ef i r) L b H Hk) (h2 : WT P l Q N (.ef j s) L b H Hk) : WT P l Q N (.ef2 i r j s) L b H Hk :=
  fun a w hf hw => ⟨h1 a w hf hw, h2 a w hf hw⟩
theorem wt_keep {L' : List (Nat × Value)} {t : Tr} (hk : Keep L L') (h : WT P l Q N t L' b H Hk) : WT P l Q N t L b H Hk := fun a w hf hw => h a w (hf.keep hk) hw
theorem wt_heap {H' : List Asr} {t : Tr} (hh : ∀ w, Holds b H w → Holds b H' w) (h : WT P l Q N t L b H' Hk) : WT P l Q N t L b H Hk := fun a w hf hw => h a w hf (hh w hw)
theorem wt_know {p : Prop} {t : Tr} (hp : ∀ w, Holds b H w → p) (h : p → WT P l Q N t L b H Hk) : WT P l Q N t L b H Hk := fun a w hf hw => h (hp w hw) a w hf hw
end wt

def drB (l : List Oper) (t : Tr) : Bool := Region.noSelect l.toArray && okB .any l.toArray && trB .any l.toArray t l.length (Array.replicate l.length false)

theorem at_draw {P : Program} {f : FuncId} {R : Ending → World → Prop} {N : Nat} {k : List Item} {L : List (Nat × Value)} {b : World} {H : List Asr} {id : Nat} {l : List Oper} (t : Tr) (Hk : List Asr)
    (hm : P.follows .mixedOrders = true) (hB : drB l t = true) (hS : ∃ Hr, H = Hr ++ Hk) (h : WT P l (Kont P f R k) N t L b H Hk) : At P f R N (.code (.region id l.toArray true) :: k) L b H := by
  intro a w hf hw
  simp only [drB, Bool.and_eq_true] at hB
  obtain ⟨⟨h1, h2⟩, h3⟩ := hB
  refine goOn_of_wp (wp_region_any hm ?_)
  have hw' := hw.drew
  obtain ⟨Hr, e⟩ := hS
  refine wpAny_of_held (S := SS b Hk) _ _ _ _ ?_
  have hsz : l.toArray.size = l.length := by simp
  rw [hsz]
  exact wpAnyH_of_wpT h1 h2 (fun _ _ _ hq => hq) t _ _ _ _ h3 ⟨Hr, e ▸ hw'⟩ (h _ _ hf hw')

theorem at_draw0 {P : Program} {f : FuncId} {R : Ending → World → Prop} {N : Nat} {k : List Item} {L : List (Nat × Value)} {b : World} {H : List Asr} {id : Nat} {l : List Oper} (t : Tr)
    (hm : P.follows .mixedOrders = true) (hB : drB l t = true) (h : WT P l (Kont P f R k) N t L b H H) : At P f R N (.code (.region id l.toArray true) :: k) L b H := at_draw t H hm hB ⟨[], rfl⟩ h
theorem at_draw1 {P : Program} {f : FuncId} {R : Ending → World → Prop} {N : Nat} {k : List Item} {L : List (Nat × Value)} {b : World} {A : Asr} {H : List Asr} {id : Nat} {l : List Oper} (t : Tr)
    (hm : P.follows .mixedOrders = true) (hB : drB l t = true) (h : WT P l (Kont P f R k) N t L b (A :: H) H) : At P f R N (.code (.region id l.toArray true) :: k) L b (A :: H) := at_draw t H hm hB ⟨[A], rfl⟩ h
theorem at_draw2 {P : Program} {f : FuncId} {R : Ending → World → Prop} {N : Nat} {k : List Item} {L : List (Nat × Value)} {b : World} {A B : Asr} {H : List Asr} {id : Nat} {l : List Oper} (t : Tr)
    (hm : P.follows .mixedOrders = true) (hB : drB l t = true) (h : WT P l (Kont P f R k) N t L b (A :: B :: H) H) : At P f R N (.code (.region id l.toArray true) :: k) L b (A :: B :: H) := at_draw t H hm hB ⟨[A, B], rfl⟩ h
theorem at_draw3 {P : Program} {f : FuncId} {R : Ending → World → Prop} {N : Nat} {k : List Item} {L : List (Nat × Value)} {b : World} {A B C : Asr} {H : List Asr} {id : Nat} {l : List Oper} (t : Tr)
    (hm : P.follows .mixedOrders = true) (hB : drB l t = true) (h : WT P l (Kont P f R k) N t L b (A :: B :: C :: H) H) : At P f R N (.code (.region id l.toArray true) :: k) L b (A :: B :: C :: H) := at_draw t H hm hB ⟨[A, B, C], rfl⟩ h
end Go.Proofs.Yteecjaiklpkhaaa

/-
  The memory words: a frame's slots as a list, the heap as a list of separate assertions; what a machine comes to from a list of items. Everything here is over any program.
-/
import Derived.WalkKit
import Derived.WalkSpells
import Derived.WalkLawsBesides
import Derived.OrdersHeld
import Derived.KernelRfl
namespace Go.Proofs.Yteecjaiklpkhaaa
open Go

/-! ### Slots -/

def get : List (Nat × Value) → Nat → Option Value
  | [], _ => none
  | (j, v) :: r, i => match Nat.beq j i with | true => some v | false => get r i

structure Fit (N : Nat) (L : List (Nat × Value)) (a : Act) : Prop where
  defers : a.defers = []
  size : a.tmps.size = N
  val : ∀ i v, get L i = some v → a.tmps[i]? = some v

theorem Fit.put {N : Nat} {L : List (Nat × Value)} {a : Act} (h : Fit N L a) {d : Nat} (hd : Nat.blt d N = true) (v : Value) : Fit N ((d, v) :: L) (a.put (some d) v) := by
  have hd' : d < N := by simpa [Nat.blt_eq] using hd
  refine ⟨h.defers, by simp [Act.put, h.size], fun i u hu => ?_⟩
  simp only [get] at hu
  cases hb : Nat.beq d i with
  | true =>
    rw [hb] at hu
    have e : d = i := Nat.eq_of_beq_eq_true hb
    subst e
    simp only [Option.some.injEq] at hu
    subst hu
    simp [Act.put, h.size, hd']
  | false =>
    rw [hb] at hu
    have e : d ≠ i := Nat.ne_of_beq_eq_false hb
    simp only [Act.put]
    rw [Array.getElem?_setIfInBounds_ne e]
    exact h.val i u hu

/-- From a list of slots to another: each slot of the new one reads so in the old one. -/
inductive Keep (L : List (Nat × Value)) : List (Nat × Value) → Prop
  | nil : Keep L []
  | cons {r : List (Nat × Value)} (i : Nat) {v : Value} (h : get L i = some v) (hr : Keep L r) : Keep L ((i, v) :: r)
theorem Keep.consEq {L r : List (Nat × Value)} (i : Nat) {v u : Value} (h : get L i = some v) (e : v = u) (hr : Keep L r) : Keep L ((i, u) :: r) := by
  subst e; exact Keep.cons i h hr

theorem Keep.get {L L' : List (Nat × Value)} (h : Keep L L') : ∀ i v, get L' i = some v → get L i = some v := by
  induction h with
  | nil => intro i v hv; simp [Go.Proofs.Yteecjaiklpkhaaa.get] at hv
  | cons j h hr ih =>
    intro i v hv
    simp only [Go.Proofs.Yteecjaiklpkhaaa.get] at hv
    cases hb : Nat.beq j i with
    | true =>
      rw [hb] at hv
      have e : j = i := Nat.eq_of_beq_eq_true hb
      subst e
      simp only [Option.some.injEq] at hv
      subst hv
      exact h
    | false => rw [hb] at hv; exact ih i v hv

theorem Fit.keep {N : Nat} {L L' : List (Nat × Value)} {a : Act} (h : Fit N L a) (hk : Keep L L') : Fit N L' a :=
  ⟨h.defers, h.size, fun i v hv => h.val i v (hk.get i v hv)⟩

def ev (L : List (Nat × Value)) : Operand → Option Value
  | .tmp t => get L t
  | .const v => some v
  | .global g => some (.pointer (some ⟨g, 0, none⟩))
  | .func f => some (.func (.func f) #[] #[])

theorem Fit.ev {N : Nat} {L : List (Nat × Value)} {a : Act} (h : Fit N L a) {x : Operand} {v : Value} (hx : ev L x = some v) : a.eval x = v := by
  cases x with
  | tmp t => simp only [Go.Proofs.Yteecjaiklpkhaaa.ev] at hx; simp [Act.eval, h.val t v hx]
  | const u => simpa [Go.Proofs.Yteecjaiklpkhaaa.ev, Act.eval] using hx
  | global g => simpa [Go.Proofs.Yteecjaiklpkhaaa.ev, Act.eval] using hx
  | func f => simpa [Go.Proofs.Yteecjaiklpkhaaa.ev, Act.eval] using hx

/-! ### The heap as separate assertions -/

structure Asr where
  on : List Nat → (Nat → Option Obj) → Prop
  loc : ∀ D h h', on D h → (∀ g, g ∈ D → h' g = h g) → on D h'
  dom : ∀ D h, on D h → ∀ g, g ∈ D → (h g).isSome = true

def Hs : List Asr → List Nat → (Nat → Option Obj) → Prop
  | [], D, _ => D = []
  | A :: H, D, h => ∃ D1 D2, D = D1 ++ D2 ∧ A.on D1 h ∧ Hs H D2 h

theorem Hs.loc : ∀ (H : List Asr) (D : List Nat) (h h' : Nat → Option Obj), Hs H D h → (∀ g, g ∈ D → h' g = h g) → Hs H D h'
  | [], _, _, _, hs, _ => hs
  | A :: H, D, h, h', ⟨D1, D2, e, ha, hr⟩, he => ⟨D1, D2, e, A.loc D1 h h' ha (fun g hg => he g (by rw [e]; exact List.mem_append_left _ hg)),
      Hs.loc H D2 h h' hr (fun g hg => he g (by rw [e]; exact List.mem_append_right _ hg))⟩

theorem Hs.dom : ∀ (H : List Asr) (D : List Nat) (h : Nat → Option Obj), Hs H D h → ∀ g, g ∈ D → (h g).isSome = true
  | [], _, _, hs, g, hg => by simp only [Hs] at hs; subst hs; simp at hg
  | A :: H, D, h, ⟨D1, D2, e, ha, hr⟩, g, hg => by
    subst e
    rcases List.mem_append.1 hg with h1 | h1
    · exact A.dom D1 h ha g h1
    · exact Hs.dom H D2 h hr g h1

theorem Hs.at_ : ∀ (H : List Asr) (n : Nat) (A : Asr) (D : List Nat) (h : Nat → Option Obj), H[n]? = some A → Hs H D h →
    ∃ D1 DA D2, D = D1 ++ (DA ++ D2) ∧ A.on DA h ∧ ∀ A' DA' h', Asr.on A' DA' h' → (∀ g, g ∈ D1 ++ D2 → h' g = h g) → Hs (H.set n A') (D1 ++ (DA' ++ D2)) h'
  | [], n, A, D, h, hn, _ => by simp at hn
  | B :: H, 0, A, D, h, hn, ⟨D1, D2, e, ha, hr⟩ => by
    simp only [List.getElem?_cons_zero, Option.some.injEq] at hn
    subst hn
    refine ⟨[], D1, D2, by simpa using e, ha, fun A' DA' h' ha' he => ?_⟩
    exact ⟨DA', D2, by simp, ha', Hs.loc H D2 h h' hr (fun g hg => he g (by simpa using hg))⟩
  | B :: H, n + 1, A, D, h, hn, ⟨D1, D2, e, ha, hr⟩ => by
    simp only [List.getElem?_cons_succ] at hn
    obtain ⟨E1, DA, E2, e2, hA, hup⟩ := Hs.at_ H n A D2 h hn hr
    refine ⟨D1 ++ E1, DA, E2, by rw [e, e2]; simp, hA, fun A' DA' h' ha' he => ?_⟩
    refine ⟨D1, E1 ++ (DA' ++ E2), by simp, B.loc D1 h h' ha (fun g hg => he g (by simp [hg])), ?_⟩
    exact hup A' DA' h' ha' (fun g hg => he g (by
      rcases List.mem_append.1 hg with h1 | h1
      · simp [h1]
      · simp [h1]))

structure Holds (b : World) (H : List Asr) (w : World) : Prop where
  os : w.os = b.os
  tape : w.tape = b.tape
  output : w.output = b.output
  mem : ∃ D, D.Nodup ∧ Hs H D (fun g => w.heap[g]?)

theorem heap_lt {w : World} {g : Nat} (h : (w.heap[g]?).isSome = true) : g < w.heap.size := by
  rcases Nat.lt_or_ge g w.heap.size with h1 | h1
  · exact h1
  · rw [Array.getElem?_eq_none h1] at h; cases h

section holds
variable {b w w' : World} {H : List Asr} {n : Nat} {A : Asr}

/-- The assertion at place n, taken out, and what may be put in its place. -/
theorem Holds.update (hw : Holds b H w) (hn : H[n]? = some A) : ∃ DA, A.on DA (fun g => w.heap[g]?) ∧
    ∀ (w' : World) (A' : Asr) (DA' : List Nat), w'.os = w.os → w'.tape = w.tape → w'.output = w.output → A'.on DA' (fun g => w'.heap[g]?) →
      (∀ g, g < w.heap.size → g ∉ DA → w'.heap[g]? = w.heap[g]?) → DA'.Nodup → (∀ g, g ∈ DA' → g ∈ DA ∨ w.heap.size ≤ g) → Holds b (H.set n A') w' := by
  obtain ⟨ho, ht, hp, D, hnd, hs⟩ := hw
  obtain ⟨D1, DA, D2, e, hA, hup⟩ := Hs.at_ H n A D _ hn hs
  refine ⟨DA, hA, fun w' A' DA' e1 e2 e3 hA' hold hnd' hnew => ⟨e1.trans ho, e2.trans ht, e3.trans hp, D1 ++ (DA' ++ D2), ?_, ?_⟩⟩
  · subst e
    have hdom := Hs.dom H _ _ hs
    rw [List.nodup_append] at hnd ⊢
    obtain ⟨n1, n2, n3⟩ := hnd
    rw [List.nodup_append] at n2
    obtain ⟨n4, n5, n6⟩ := n2
    refine ⟨n1, ?_, ?_⟩
    · rw [List.nodup_append]
      refine ⟨hnd', n5, fun x hx y hy => ?_⟩
      rcases hnew x hx with h1 | h1
      · exact n6 x h1 y hy
      · rintro rfl
        have := heap_lt (hdom x (by simp [hy]))
        omega
    · intro x hx y hy
      rcases List.mem_append.1 hy with h1 | h1
      · rcases hnew y h1 with h2 | h2
        · exact n3 x hx y (by simp [h2])
        · rintro rfl
          have := heap_lt (hdom x (by simp [hx]))
          omega
      · exact n3 x hx y (by simp [h1])
  · refine hup A' DA' _ hA' (fun g hg => hold g ?_ ?_)
    · exact heap_lt (Hs.dom H D _ hs g (by
        subst e
        rcases List.mem_append.1 hg with h1 | h1 <;> simp [h1]))
    · subst e
      rw [List.nodup_append] at hnd
      obtain ⟨_, n2, n3⟩ := hnd
      rw [List.nodup_append] at n2
      intro hin
      rcases List.mem_append.1 hg with h1 | h1
      · exact n3 g h1 g (by simp [hin]) rfl
      · exact n2.2.2 g hin g h1 rfl

theorem Holds.push (hw : Holds b H w) (A' : Asr) (DA' : List Nat) (e1 : w'.os = w.os) (e2 : w'.tape = w.tape) (e3 : w'.output = w.output) (hA' : A'.on DA' (fun g => w'.heap[g]?))
    (hold : ∀ g, g < w.heap.size → w'.heap[g]? = w.heap[g]?) (hnd' : DA'.Nodup) (hnew : ∀ g, g ∈ DA' → w.heap.size ≤ g) : Holds b (A' :: H) w' := by
  obtain ⟨ho, ht, hp, D, hnd, hs⟩ := hw
  have hdom := Hs.dom H _ _ hs
  refine ⟨e1.trans ho, e2.trans ht, e3.trans hp, DA' ++ D, ?_, DA', D, rfl, hA', Hs.loc H D _ _ hs (fun g hg => hold g (heap_lt (hdom g hg)))⟩
  rw [List.nodup_append]
  refine ⟨hnd', hnd, fun x hx y hy => ?_⟩
  rintro rfl
  have := heap_lt (hdom x hy)
  have := hnew x hx
  omega

theorem Holds.keep (hw : Holds b H w) (e1 : w'.os = w.os) (e2 : w'.tape = w.tape) (e3 : w'.output = w.output) (hold : ∀ g, g < w.heap.size → w'.heap[g]? = w.heap[g]?) : Holds b H w' := by
  obtain ⟨ho, ht, hp, D, hnd, hs⟩ := hw
  exact ⟨e1.trans ho, e2.trans ht, e3.trans hp, D, hnd, Hs.loc H D _ _ hs (fun g hg => hold g (heap_lt (Hs.dom H _ _ hs g hg)))⟩

theorem Holds.drew (hw : Holds b H w) : Holds b H { w with drawn := w.drawn + 1 } := ⟨hw.os, hw.tape, hw.output, hw.mem⟩

theorem Holds.tail (hw : Holds b (A :: H) w) : Holds b H w := by
  obtain ⟨ho, ht, hp, D, hnd, D1, D2, e, _, hr⟩ := hw
  subst e
  exact ⟨ho, ht, hp, D2, (List.nodup_append.1 hnd).2.1, hr⟩

theorem Holds.append_right {Hr Hk : List Asr} (hw : Holds b (Hr ++ Hk) w) : Holds b Hk w := by
  induction Hr with
  | nil => exact hw
  | cons A Hr ih => exact ih hw.tail

theorem Holds.swap {A B : Asr} (hw : Holds b (A :: B :: H) w) : Holds b (B :: A :: H) w := by
  obtain ⟨ho, ht, hp, D, hnd, D1, D2, e, ha, E1, E2, e2, hb, hr⟩ := hw
  subst e; subst e2
  refine ⟨ho, ht, hp, E1 ++ (D1 ++ E2), ?_, E1, D1 ++ E2, rfl, hb, D1, E2, rfl, ha, hr⟩
  rw [List.nodup_append] at hnd
  obtain ⟨n1, n2, n3⟩ := hnd
  rw [List.nodup_append] at n2
  obtain ⟨n4, n5, n6⟩ := n2
  rw [List.nodup_append]
  refine ⟨n4, ?_, fun x hx y hy => ?_⟩
  · rw [List.nodup_append]
    exact ⟨n1, n5, fun x hx y hy => n3 x hx y (by simp [hy])⟩
  · rcases List.mem_append.1 hy with h1 | h1
    · exact fun e => n3 y h1 x (by simp [hx]) e.symm
    · exact n6 x hx y h1

end holds

theorem Hs.perm {H H' : List Asr} (hp : H.Perm H') : ∀ (D : List Nat) (h : Nat → Option Obj), Hs H D h → ∃ D', D'.Perm D ∧ Hs H' D' h := by
  induction hp with
  | nil => exact fun D h hs => ⟨D, .refl _, hs⟩
  | cons A _ ih =>
    rintro D h ⟨D1, D2, e, ha, hr⟩
    obtain ⟨D', p, hr'⟩ := ih D2 h hr
    exact ⟨D1 ++ D', by rw [e]; exact List.Perm.append_left D1 p, D1, D', rfl, ha, hr'⟩
  | swap A B H =>
    rintro D h ⟨D1, D2, e, ha, E1, E2, e2, hb, hr⟩
    refine ⟨E1 ++ (D1 ++ E2), ?_, E1, D1 ++ E2, rfl, hb, D1, E2, rfl, ha, hr⟩
    rw [e, e2, ← List.append_assoc, ← List.append_assoc]
    exact List.Perm.append_right E2 List.perm_append_comm
  | trans _ _ ih1 ih2 =>
    intro D h hs
    obtain ⟨D', p1, h1⟩ := ih1 D h hs
    obtain ⟨D'', p2, h2⟩ := ih2 D' h h1
    exact ⟨D'', p2.trans p1, h2⟩

theorem Holds.perm {b w : World} {H H' : List Asr} (hw : Holds b H w) (hp : H.Perm H') : Holds b H' w := by
  obtain ⟨ho, ht, hq, D, hnd, hs⟩ := hw
  obtain ⟨D', p, h'⟩ := Hs.perm hp D _ hs
  exact ⟨ho, ht, hq, D', p.nodup_iff.2 hnd, h'⟩

/-! ### What a machine comes to from a list of items -/

def GoOn (P : Program) (f : FuncId) (R : Ending → World → Prop) (k : List Item) (a : Act) (w : World) : Prop :=
  ∀ (b : Frame), b.fn = f → b.kind = .normal → ∀ cs, ∃ e w' fr, R e w' ∧ Comes P (lone (b.at a k) cs w) (lone fr cs w') e ∧ fr.fn = f ∧ fr.leaving P w' e

theorem GoOn.of_steps {P : Program} {f : FuncId} {R : Ending → World → Prop} {k k' : List Item} {a a' : Act} {w w' : World}
    (hs : ∀ (b : Frame) cs, b.fn = f → Steps P (lone (b.at a k) cs w) (lone (b.at a' k') cs w')) (h : GoOn P f R k' a' w') : GoOn P f R k a w := by
  intro b hb hk cs
  obtain ⟨e, w'', fr, hR, hc, h1, h2⟩ := h b hb hk cs
  exact ⟨e, w'', fr, hR, Comes.of_steps (hs b cs hb) hc, h1, h2⟩

def At (P : Program) (f : FuncId) (R : Ending → World → Prop) (N : Nat) (k : List Item) (L : List (Nat × Value)) (b : World) (H : List Asr) : Prop :=
  ∀ a w, Fit N L a → Holds b H w → GoOn P f R k a w

/-- What stands behind a region. -/
def Kont (P : Program) (f : FuncId) (R : Ending → World → Prop) (k : List Item) : Exit → Act → World → Prop
  | .normal, a, w => GoOn P f R k a w
  | _, _, _ => False

theorem goOn_of_wp {P : Program} {f : FuncId} {R : Ending → World → Prop} {k : List Item} {c : Code} {a : Act} {w : World} (h : c.wp P (Kont P f R k) a w) : GoOn P f R (.code c :: k) a w := by
  intro b hb hk cs
  obtain ⟨e, a', w', hq, harr⟩ := h b k cs
  cases e with
  | normal =>
    obtain ⟨e, w'', fr, hR, hc, h1, h2⟩ := hq b hb hk cs
    exact ⟨e, w'', fr, hR, Comes.of_steps harr hc, h1, h2⟩
  | _ => exact hq.elim

/-- The ending of a contract. -/
def Rf (b : World) (R : Value → List Asr → Prop) : Ending → World → Prop := fun e w' => ∃ v H', e = .returned v ∧ R v H' ∧ Holds b H' w'

section rules
variable {P : Program} {f : FuncId} {R : Ending → World → Prop} {N : Nat} {k : List Item} {L : List (Nat × Value)} {b : World} {H : List Asr}

theorem at_seq {x y : Code} (h : At P f R N (.code x :: .code y :: k) L b H) : At P f R N (.code (.seq x y) :: k) L b H :=
  fun a w hf hw => GoOn.of_steps (fun _ _ _ => .one step_seq) (h a w hf hw)
theorem at_skip (h : At P f R N k L b H) : At P f R N (.code .skip :: k) L b H :=
  fun a w hf hw => GoOn.of_steps (fun _ _ _ => .one step_skip) (h a w hf hw)
theorem at_block {id : Nat} {c : Code} (h : At P f R N (.code c :: .inBlock id :: k) L b H) : At P f R N (.code (.block id c) :: k) L b H :=
  fun a w hf hw => GoOn.of_steps (fun _ _ _ => .one step_block) (h a w hf hw)
theorem at_inBlock {id : Nat} (h : At P f R N k L b H) : At P f R N (.inBlock id :: k) L b H :=
  fun a w hf hw => GoOn.of_steps (fun _ _ _ => .one step_inBlock) (h a w hf hw)
theorem at_loop {c : Code} (h : At P f R N (.code c :: .inLoop c :: k) L b H) : At P f R N (.code (.loop c) :: k) L b H :=
  fun a w hf hw => GoOn.of_steps (fun _ _ _ => .one step_loop) (h a w hf hw)
theorem at_inLoop {c : Code} (h : At P f R N (.code c :: .inLoop c :: k) L b H) : At P f R N (.inLoop c :: k) L b H :=
  fun a w hf hw => GoOn.of_steps (fun _ _ _ => .one step_inLoop) (h a w hf hw)
theorem at_exit {id : Nat} {k' : List Item} (he : exitTo id k = some k') (h : At P f R N k' L b H) : At P f R N (.code (.exit id) :: k) L b H :=
  fun a w hf hw => GoOn.of_steps (fun _ _ _ => .one (step_exit he)) (h a w hf hw)
theorem at_true {c : Operand} {x y : Code} (hc : ev L c = some (.bool true)) (h : At P f R N (.code x :: k) L b H) : At P f R N (.code (.cond c x y) :: k) L b H :=
  fun a w hf hw => GoOn.of_steps (fun _ _ _ => .one (step_cond (t := true) (hf.ev hc))) (h a w hf hw)
theorem at_false {c : Operand} {x y : Code} (hc : ev L c = some (.bool false)) (h : At P f R N (.code y :: k) L b H) : At P f R N (.code (.cond c x y) :: k) L b H :=
  fun a w hf hw => GoOn.of_steps (fun _ _ _ => .one (step_cond (t := false) (hf.ev hc))) (h a w hf hw)
theorem at_if {c : Operand} {x y : Code} {t : Bool} (hc : ev L c = some (.bool t)) (h1 : t = true → At P f R N (.code x :: k) L b H) (h2 : t = false → At P f R N (.code y :: k) L b H) :
    At P f R N (.code (.cond c x y) :: k) L b H := by
  cases t
  · exact at_false hc (h2 rfl)
  · exact at_true hc (h1 rfl)
theorem at_keep {L' : List (Nat × Value)} (hk : Keep L L') (h : At P f R N k L' b H) : At P f R N k L b H :=
  fun a w hf hw => h a w (hf.keep hk) hw
theorem at_heap {H' : List Asr} (hh : ∀ w, Holds b H w → Holds b H' w) (h : At P f R N k L b H') : At P f R N k L b H :=
  fun a w hf hw => h a w hf (hh w hw)
/-- What a world that meets H proves besides. -/
theorem at_know {p : Prop} (hp : ∀ w, Holds b H w → p) (h : p → At P f R N k L b H) : At P f R N k L b H :=
  fun a w hf hw => h (hp w hw) a w hf hw

/-- Loops, by a measure over whatever states. -/
theorem at_loop0 {c : Code} {ι : Type} (I : ι → Prop) (Lf : ι → List (Nat × Value)) (Hf : ι → List Asr) (μ : ι → Nat)
    (body : ∀ i, I i → (∀ j, I j → μ j < μ i → At P f R N (.inLoop c :: k) (Lf j) b (Hf j)) → At P f R N (.code c :: .inLoop c :: k) (Lf i) b (Hf i)) (i0 : ι) (h0 : I i0) :
    At P f R N (.code (.loop c) :: k) (Lf i0) b (Hf i0) := by
  have key : ∀ n i, μ i = n → I i → At P f R N (.code c :: .inLoop c :: k) (Lf i) b (Hf i) := by
    intro n
    induction n using Nat.strongRecOn with
    | _ n ih =>
      intro i hn hi
      refine body i hi (fun j hj hlt => at_inLoop (ih (μ j) (by omega) j rfl hj))
  exact at_loop (key _ i0 rfl h0)

theorem at_loop1 {c : Code} {α : Type} (I : α → Prop) (Lf : α → List (Nat × Value)) (Hf : α → List Asr) (μ : α → Nat) (x0 : α) (h0 : I x0)
    (body : ∀ x, I x → (∀ y, I y → μ y < μ x → At P f R N (.inLoop c :: k) (Lf y) b (Hf y)) → At P f R N (.code c :: .inLoop c :: k) (Lf x) b (Hf x)) :
    At P f R N (.code (.loop c) :: k) (Lf x0) b (Hf x0) := at_loop0 I Lf Hf μ body x0 h0
theorem at_loop2 {c : Code} {α β : Type} (I : α → β → Prop) (Lf : α → β → List (Nat × Value)) (Hf : α → β → List Asr) (μ : α → β → Nat) (x0 : α) (y0 : β) (h0 : I x0 y0)
    (body : ∀ x y, I x y → (∀ x' y', I x' y' → μ x' y' < μ x y → At P f R N (.inLoop c :: k) (Lf x' y') b (Hf x' y')) → At P f R N (.code c :: .inLoop c :: k) (Lf x y) b (Hf x y)) :
    At P f R N (.code (.loop c) :: k) (Lf x0 y0) b (Hf x0 y0) :=
  at_loop0 (fun s : α × β => I s.1 s.2) (fun s => Lf s.1 s.2) (fun s => Hf s.1 s.2) (fun s => μ s.1 s.2) (fun s hs ih => body s.1 s.2 hs (fun x y h1 h2 => ih (x, y) h1 h2)) (x0, y0) h0
theorem at_loop3 {c : Code} {α β γ : Type} (I : α → β → γ → Prop) (Lf : α → β → γ → List (Nat × Value)) (Hf : α → β → γ → List Asr) (μ : α → β → γ → Nat) (x0 : α) (y0 : β) (z0 : γ) (h0 : I x0 y0 z0)
    (body : ∀ x y z, I x y z → (∀ x' y' z', I x' y' z' → μ x' y' z' < μ x y z → At P f R N (.inLoop c :: k) (Lf x' y' z') b (Hf x' y' z')) → At P f R N (.code c :: .inLoop c :: k) (Lf x y z) b (Hf x y z)) :
    At P f R N (.code (.loop c) :: k) (Lf x0 y0 z0) b (Hf x0 y0 z0) :=
  at_loop0 (fun s : α × β × γ => I s.1 s.2.1 s.2.2) (fun s => Lf s.1 s.2.1 s.2.2) (fun s => Hf s.1 s.2.1 s.2.2) (fun s => μ s.1 s.2.1 s.2.2)
    (fun s hs ih => body s.1 s.2.1 s.2.2 hs (fun x y z h1 h2 => ih (x, y, z) h1 h2)) (x0, y0, z0) h0
theorem at_loop4 {c : Code} {α β γ δ : Type} (I : α → β → γ → δ → Prop) (Lf : α → β → γ → δ → List (Nat × Value)) (Hf : α → β → γ → δ → List Asr) (μ : α → β → γ → δ → Nat) (x0 : α) (y0 : β) (z0 : γ) (u0 : δ) (h0 : I x0 y0 z0 u0)
    (body : ∀ x y z u, I x y z u → (∀ x' y' z' u', I x' y' z' u' → μ x' y' z' u' < μ x y z u → At P f R N (.inLoop c :: k) (Lf x' y' z' u') b (Hf x' y' z' u')) → At P f R N (.code c :: .inLoop c :: k) (Lf x y z u) b (Hf x y z u)) :
    At P f R N (.code (.loop c) :: k) (Lf x0 y0 z0 u0) b (Hf x0 y0 z0 u0) :=
  at_loop0 (fun s : α × β × γ × δ => I s.1 s.2.1 s.2.2.1 s.2.2.2) (fun s => Lf s.1 s.2.1 s.2.2.1 s.2.2.2) (fun s => Hf s.1 s.2.1 s.2.2.1 s.2.2.2) (fun s => μ s.1 s.2.1 s.2.2.1 s.2.2.2)
    (fun s hs ih => body s.1 s.2.1 s.2.2.1 s.2.2.2 hs (fun x y z u h1 h2 => ih (x, y, z, u) h1 h2)) (x0, y0, z0, u0) h0
end rules

/-! ### The end of a function, and its contract -/

def okCall (P : Program) (f : FuncId) : Bool := match P.funcs[f]? with | some fn => !(fn.name == "runtime.NumGoroutine") && fn.body.isSome | none => false

/-- A contract: from whatever world that meets H the call returns a value, and a world that meets a list of assertions, as R says. -/
def Fn (P : Program) (f : FuncId) (args : List Value) (b : World) (H : List Asr) (R : Value → List Asr → Prop) : Prop :=
  okCall P f = true ∧ ∀ w, Holds b H w → Calls P f args.toArray w (Rf b R)

theorem Fn.mono {P : Program} {f : FuncId} {args : List Value} {b : World} {H : List Asr} {R R' : Value → List Asr → Prop} (h : Fn P f args b H R) (hr : ∀ v H', R v H' → R' v H') : Fn P f args b H R' :=
  ⟨h.1, fun w hw => (h.2 w hw).mono fun _ _ ⟨v, H', e, r, hh⟩ => ⟨v, H', e, hr v H' r, hh⟩⟩

theorem Fn.pre {P : Program} {f : FuncId} {args : List Value} {b : World} {H H0 : List Asr} {R : Value → List Asr → Prop} (h : Fn P f args b H R) (hh : ∀ w, Holds b H0 w → Holds b H w) : Fn P f args b H0 R :=
  ⟨h.1, fun w hw => h.2 w (hh w hw)⟩

def argSlots : Nat → List Value → List (Nat × Value)
  | _, [] => []
  | i, v :: r => (i, v) :: argSlots (i + 1) r

theorem get_argSlots : ∀ (args : List Value) (j i : Nat) (v : Value), get (argSlots j args) i = some v → j ≤ i ∧ args[i - j]? = some v
  | [], _, _, _, h => by simp [argSlots, get] at h
  | u :: r, j, i, v, h => by
    simp only [argSlots, get] at h
    cases hb : Nat.beq j i with
    | true =>
      rw [hb] at h
      have e : j = i := Nat.eq_of_beq_eq_true hb
      subst e
      simpa using h
    | false =>
      rw [hb] at h
      have e : j ≠ i := Nat.ne_of_beq_eq_false hb
      obtain ⟨h1, h2⟩ := get_argSlots r (j + 1) i v h
      refine ⟨by omega, ?_⟩
      have : i - j = (i - (j + 1)) + 1 := by omega
      rw [this]
      simpa using h2

theorem fn_of_at {P : Program} {f : FuncId} {fn : Func} {c : Code} {N : Nat} {args : List Value} {L : List (Nat × Value)} {b : World} {H : List Asr} {R : Value → List Asr → Prop} (hok : okCall P f = true) (hf : P.funcs[f]? = some fn) (hb : fn.body = some c)
    (hN : fn.ntmps = N) (hL : argSlots 0 args = L) (hl : Nat.ble args.length N = true) (h : At P f (Rf b R) N [.code c] L b H) : Fn P f args b H R := by
  subst hN; subst hL
  have hl' : args.length ≤ fn.ntmps := Nat.le_of_ble_eq_true hl
  refine ⟨hok, fun w hw cs => ?_⟩
  let fr : Frame := { (default : Frame) with fn := f, kind := .normal }
  have henter : Frame.enter P f args.toArray .normal = fr.at { tmps := args.toArray ++ Array.replicate (fn.ntmps - args.toArray.size) undef, defers := [] } [.code c] := by
    simp [Frame.enter, Frame.at, hf, hb, fr]
  rw [henter]
  refine h _ w ⟨rfl, by simp; omega, fun i v hv => ?_⟩ hw fr rfl rfl cs
  obtain ⟨_, h2⟩ := get_argSlots args 0 i v hv
  simp only [Nat.sub_zero] at h2
  have hi : i < args.length := (List.getElem?_eq_some_iff.1 h2).1
  rw [Array.getElem?_append_left (by simpa using hi)]
  simpa using h2

/-- The results as they are read off at the end, in whatever world meets H. -/
def Res (P : Program) (fn : Func) (N : Nat) (L : List (Nat × Value)) (H : List Asr) (v : Value) : Prop :=
  ∀ a b w, Fit N L a → Holds b H w → (results fn a.tmps).run P w = .ok v w

theorem at_ret {P : Program} {f : FuncId} {fn : Func} {N : Nat} {k : List Item} {L : List (Nat × Value)} {b : World} {H : List Asr} {R : Value → List Asr → Prop} {v : Value} (hf : P.funcs[f]? = some fn) (hv : Res P fn N L H v) (hR : R v H) :
    At P f (Rf b R) N (.code .ret :: k) L b H := by
  intro a w hfit hw fr hfn hk cs
  refine ⟨.returned v, w, { fr.at a (.code .ret :: k) with mode := .returning }, ⟨v, H, rfl, hR, hw⟩, .one step_ret, hfn, rfl, hfit.defers, hk, fn, ?_, hv a b w hfit hw⟩
  simpa [Frame.at, hfn] using hf

theorem at_end {P : Program} {f : FuncId} {fn : Func} {N : Nat} {L : List (Nat × Value)} {b : World} {H : List Asr} {R : Value → List Asr → Prop} {v : Value} (hf : P.funcs[f]? = some fn) (hv : Res P fn N L H v) (hR : R v H) :
    At P f (Rf b R) N [] L b H := by
  intro a w hfit hw fr hfn hk cs
  refine ⟨.returned v, w, { fr.at a [] with mode := .returning }, ⟨v, H, rfl, hR, hw⟩, .one step_end, hfn, rfl, hfit.defers, hk, fn, ?_, hv a b w hfit hw⟩
  simpa [Frame.at, hfn] using hf

/-- The end, and of the heap what the contract speaks of. -/
theorem at_retH {P : Program} {f : FuncId} {fn : Func} {N : Nat} {k : List Item} {L : List (Nat × Value)} {b : World} {H H2 : List Asr} {R : Value → List Asr → Prop} {v : Value} (hh : ∀ w, Holds b H w → Holds b H2 w) (hf : P.funcs[f]? = some fn) (hv : Res P fn N L H v) (hR : R v H2) :
    At P f (Rf b R) N (.code .ret :: k) L b H := by
  intro a w hfit hw fr hfn hk cs
  refine ⟨.returned v, w, { fr.at a (.code .ret :: k) with mode := .returning }, ⟨v, H2, rfl, hR, hh w hw⟩, .one step_ret, hfn, rfl, hfit.defers, hk, fn, ?_, hv a b w hfit hw⟩
  simpa [Frame.at, hfn] using hf

section res
variable {P : Program} {fn : Func} {N : Nat} {L : List (Nat × Value)} {H : List Asr}
theorem res0 (h : fn.results = #[]) : Res P fn N L H (.tuple #[]) := fun a _ w _ _ => by simp [results, h]
theorem res1 {t : Tmp} {v : Value} (h : fn.results = #[.tmp t]) (hv : get L t = some v) : Res P fn N L H v := fun a _ w hf _ => by
  simp [results, h, hf.val t v hv]
theorem res2 {t u : Tmp} {x y : Value} (h : fn.results = #[.tmp t, .tmp u]) (hx : get L t = some x) (hy : get L u = some y) : Res P fn N L H (.tuple #[x, y]) := fun a _ w hf _ => by
  simp [results, h, hf.val t x hx, hf.val u y hy]
theorem res3 {t u s : Tmp} {x y z : Value} (h : fn.results = #[.tmp t, .tmp u, .tmp s]) (hx : get L t = some x) (hy : get L u = some y) (hz : get L s = some z) : Res P fn N L H (.tuple #[x, y, z]) := fun a _ w hf _ => by
  simp [results, h, hf.val t x hx, hf.val u y hy, hf.val s z hz]
theorem res4 {t u s r : Tmp} {x y z q : Value} (h : fn.results = #[.tmp t, .tmp u, .tmp s, .tmp r]) (hx : get L t = some x) (hy : get L u = some y) (hz : get L s = some z) (hq : get L r = some q) : Res P fn N L H (.tuple #[x, y, z, q]) := fun a _ w hf _ => by
  simp [results, h, hf.val t x hx, hf.val u y hy, hf.val s z hz, hf.val r q hq]
end res
end Go.Proofs.Yteecjaiklpkhaaa

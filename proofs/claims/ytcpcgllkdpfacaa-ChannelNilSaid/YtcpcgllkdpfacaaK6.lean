/-
  Assertions of several blocks; maps; comparisons with nil.
-/
import Derived.Test.YtcpcgllkdpfacaaK4
import Derived.WideKeyRuns
import Derived.Laws.Externs
namespace Go.Proofs.Ytcpcgllkdpfacaa
open Go

/-! ### Several blocks in one assertion -/

def Asr.star (A B : Asr) : Asr where
  on D h := ∃ D1 D2, D = D1 ++ D2 ∧ A.on D1 h ∧ B.on D2 h
  loc := fun D h h' ⟨D1, D2, e, ha, hb⟩ he => ⟨D1, D2, e, A.loc D1 h h' ha (fun g hg => he g (by rw [e]; exact List.mem_append_left _ hg)), B.loc D2 h h' hb (fun g hg => he g (by rw [e]; exact List.mem_append_right _ hg))⟩
  dom := fun D h ⟨D1, D2, e, ha, hb⟩ g hg => by
    subst e
    rcases List.mem_append.1 hg with h1 | h1
    · exact A.dom D1 h ha g h1
    · exact B.dom D2 h hb g h1

def Asr.exi {ι : Type} (f : ι → Asr) : Asr where
  on D h := ∃ i, (f i).on D h
  loc := fun D h h' ⟨i, hi⟩ he => ⟨i, (f i).loc D h h' hi he⟩
  dom := fun D h ⟨i, hi⟩ g hg => (f i).dom D h hi g hg

section comp
variable {b w : World} {H : List Asr} {A B C : Asr}
theorem Holds.unstar (hw : Holds b (A.star B :: H) w) : Holds b (A :: B :: H) w := by
  obtain ⟨ho, ht, hp, D, hnd, D1, D2, e, ⟨E1, E2, e2, ha, hb⟩, hr⟩ := hw
  subst e; subst e2
  exact ⟨ho, ht, hp, _, hnd, E1, E2 ++ D2, by simp, ha, E2, D2, rfl, hb, hr⟩
theorem Holds.mkstar (hw : Holds b (A :: B :: H) w) : Holds b (A.star B :: H) w := by
  obtain ⟨ho, ht, hp, D, hnd, E1, D', e, ha, E2, D2, e2, hb, hr⟩ := hw
  subst e; subst e2
  exact ⟨ho, ht, hp, _, hnd, E1 ++ E2, D2, by simp, ⟨E1, E2, rfl, ha, hb⟩, hr⟩
theorem Holds.unexi {ι : Type} {f : ι → Asr} (hw : Holds b (Asr.exi f :: H) w) : ∃ i, Holds b (f i :: H) w := by
  obtain ⟨ho, ht, hp, D, hnd, D1, D2, e, ⟨i, hi⟩, hr⟩ := hw
  exact ⟨i, ho, ht, hp, D, hnd, D1, D2, e, hi, hr⟩
theorem Holds.mkexi {ι : Type} {f : ι → Asr} (i : ι) (hw : Holds b (f i :: H) w) : Holds b (Asr.exi f :: H) w := by
  obtain ⟨ho, ht, hp, D, hnd, D1, D2, e, hi, hr⟩ := hw
  exact ⟨ho, ht, hp, D, hnd, D1, D2, e, ⟨i, hi⟩, hr⟩
theorem Fn.open_ {P : Program} {f : FuncId} {args : List Value} {R : Value → List Asr → Prop} {ι : Type} {H0 : List Asr} {Hi : ι → List Asr} (i0 : ι) (hh : ∀ w, Holds b H0 w → ∃ i, Holds b (Hi i) w) (h : ∀ i, Fn P f args b (Hi i) R) : Fn P f args b H0 R :=
  ⟨(h i0).1, fun w hw => by obtain ⟨i, hi⟩ := hh w hw; exact (h i).2 w hi⟩
theorem at_open {P : Program} {f : FuncId} {R : Ending → World → Prop} {N : Nat} {k : List Item} {L : List (Nat × Value)} {ι : Type} {H0 : List Asr} {Hi : ι → List Asr} (hh : ∀ w, Holds b H0 w → ∃ i, Holds b (Hi i) w) (h : ∀ i, At P f R N k L b (Hi i)) : At P f R N k L b H0 :=
  fun a w hf hw => by obtain ⟨i, hi⟩ := hh w hw; exact h i a w hf hi
theorem Fn.know {P : Program} {f : FuncId} {args : List Value} {R : Value → List Asr → Prop} {p : Prop} (hok : okCall P f = true) (hp : ∀ w, Holds b H w → p) (h : p → Fn P f args b H R) : Fn P f args b H R :=
  ⟨hok, fun w hw => (h (hp w hw)).2 w hw⟩
theorem Holds.map_tail (hw : Holds b (A :: H) w) {H' : List Asr} (h : ∀ D, Hs H D (fun g => w.heap[g]?) → Hs H' D (fun g => w.heap[g]?)) : Holds b (A :: H') w := by
  obtain ⟨ho, ht, hp, D, hnd, D1, D2, e, ha, hr⟩ := hw
  exact ⟨ho, ht, hp, D, hnd, D1, D2, e, ha, h D2 hr⟩

theorem Fn.heap {P : Program} {f : FuncId} {args : List Value} {R R' : Value → List Asr → Prop} (h : Fn P f args b H R) (hr : ∀ v H', R v H' → ∃ H2, R' v H2 ∧ ∀ w, Holds b H' w → Holds b H2 w) : Fn P f args b H R' :=
  ⟨h.1, fun w hw => (h.2 w hw).mono fun _ _ ⟨v, H', e, r, hh⟩ => by obtain ⟨H2, r2, h2⟩ := hr v H' r; exact ⟨v, H2, e, r2, h2 _ hh⟩⟩
variable {X1 X2 X3 X4 X5 X6 : Asr}
theorem Holds.front1 (hw : Holds b (X1 :: A :: H) w) : Holds b (A :: X1 :: H) w := hw.swap
theorem Holds.front2 (hw : Holds b (X1 :: X2 :: A :: H) w) : Holds b (A :: X1 :: X2 :: H) w :=
  hw.perm (List.perm_middle (l₁ := [X1, X2]))
theorem Holds.front3 (hw : Holds b (X1 :: X2 :: X3 :: A :: H) w) : Holds b (A :: X1 :: X2 :: X3 :: H) w :=
  hw.perm (List.perm_middle (l₁ := [X1, X2, X3]))
theorem Holds.front4 (hw : Holds b (X1 :: X2 :: X3 :: X4 :: A :: H) w) : Holds b (A :: X1 :: X2 :: X3 :: X4 :: H) w :=
  hw.perm (List.perm_middle (l₁ := [X1, X2, X3, X4]))
theorem Holds.front5 (hw : Holds b (X1 :: X2 :: X3 :: X4 :: X5 :: A :: H) w) : Holds b (A :: X1 :: X2 :: X3 :: X4 :: X5 :: H) w :=
  hw.perm (List.perm_middle (l₁ := [X1, X2, X3, X4, X5]))
theorem Holds.front6 (hw : Holds b (X1 :: X2 :: X3 :: X4 :: X5 :: X6 :: A :: H) w) : Holds b (A :: X1 :: X2 :: X3 :: X4 :: X5 :: X6 :: H) w :=
  hw.perm (List.perm_middle (l₁ := [X1, X2, X3, X4, X5, X6]))
/-- The first one down to place n. -/
theorem Holds.down1 (hw : Holds b (A :: X1 :: H) w) : Holds b (X1 :: A :: H) w := hw.swap
theorem Holds.down2 (hw : Holds b (A :: X1 :: X2 :: H) w) : Holds b (X1 :: X2 :: A :: H) w := hw.perm (List.perm_middle (l₁ := [X1, X2])).symm
theorem Holds.down3 (hw : Holds b (A :: X1 :: X2 :: X3 :: H) w) : Holds b (X1 :: X2 :: X3 :: A :: H) w := hw.perm (List.perm_middle (l₁ := [X1, X2, X3])).symm
theorem Holds.down4 (hw : Holds b (A :: X1 :: X2 :: X3 :: X4 :: H) w) : Holds b (X1 :: X2 :: X3 :: X4 :: A :: H) w := hw.perm (List.perm_middle (l₁ := [X1, X2, X3, X4])).symm
/-- The second one dropped, and so on. -/
theorem Holds.drop1 (hw : Holds b (X1 :: A :: H) w) : Holds b (X1 :: H) w := hw.front1.tail
theorem Holds.drop2 (hw : Holds b (X1 :: X2 :: A :: H) w) : Holds b (X1 :: X2 :: H) w := hw.front2.tail
theorem Holds.drop3 (hw : Holds b (X1 :: X2 :: X3 :: A :: H) w) : Holds b (X1 :: X2 :: X3 :: H) w := hw.front3.tail
end comp

/-! ### Comparisons with nil -/

section nils
variable {P : Program} {N : Nat} {L : List (Nat × Value)} {o : Oper} {H : List Asr}
theorem yl_eqPtr {t t2 : TypeId} {x y : Operand} {p : Option Addr} {r : Bool} (ho : o.op = .binOp .eql t x y t2) (hx : ev L x = some (.pointer p)) (hy : ev L y = some (.pointer none)) (ht : P.underlying t = some (.pointer (P.pointee t))) (hr : p.isNone = r) : Yl P N L o (.bool r) H :=
  fun a _ w hf _ => by subst hr; simp [execOp, ho, hf.ev hx, hf.ev hy, eqGuard_at_pointer, run_eql_pointer_nil w t p ht]
theorem yl_nePtr {t t2 : TypeId} {x y : Operand} {p : Option Addr} {r : Bool} (ho : o.op = .binOp .neq t x y t2) (hx : ev L x = some (.pointer p)) (hy : ev L y = some (.pointer none)) (ht : P.underlying t = some (.pointer (P.pointee t))) (hr : (!p.isNone) = r) : Yl P N L o (.bool r) H :=
  fun a _ w hf _ => by subst hr; simp [execOp, ho, hf.ev hx, hf.ev hy, eqGuard_at_pointer, run_neq_pointer_nil w t p ht]
theorem yl_eqMap {t t2 k e : TypeId} {x y : Operand} {p : Option Nat} {r : Bool} (ho : o.op = .binOp .eql t x y t2) (hx : ev L x = some (.map p)) (hy : ev L y = some (.map none)) (ht : P.underlying t = some (.map k e)) (hr : p.isNone = r) : Yl P N L o (.bool r) H :=
  fun a _ w hf _ => by subst hr; simp [execOp, ho, hf.ev hx, hf.ev hy, eqGuard_at_map, run_eql_map_nil w t k e p ht]
theorem run_eql_slice_nil' (w : World) (t e : TypeId) (a : Option Addr) (l c : Nat) (h : P.underlying t = some (.slice e)) : (binOp .eql t (.slice a l c) (.slice none 0 0)).run P w = .ok (.bool a.isNone) w := by
  simp only [binOp]
  simp [run_equal_slice_nil w t e a l c h]
theorem yl_eqSlice {t t2 e : TypeId} {x y : Operand} {p : Option Addr} {n c : Nat} {r : Bool} (ho : o.op = .binOp .eql t x y t2) (hx : ev L x = some (.slice p n c)) (hy : ev L y = some (.slice none 0 0)) (ht : P.underlying t = some (.slice e)) (hr : p.isNone = r) : Yl P N L o (.bool r) H :=
  fun a _ w hf _ => by subst hr; simp [execOp, ho, hf.ev hx, hf.ev hy, eqGuard_at_slice, run_eql_slice_nil' w t e p n c ht]
theorem yl_neSlice {t t2 e : TypeId} {x y : Operand} {p : Option Addr} {n c : Nat} {r : Bool} (ho : o.op = .binOp .neq t x y t2) (hx : ev L x = some (.slice p n c)) (hy : ev L y = some (.slice none 0 0)) (ht : P.underlying t = some (.slice e)) (hr : (!p.isNone) = r) : Yl P N L o (.bool r) H :=
  fun a _ w hf _ => by subst hr; simp [execOp, ho, hf.ev hx, hf.ev hy, eqGuard_at_slice, run_neq_slice_nil w t e p n c ht]
theorem yl_iface {t : TypeId} {x : Operand} {v : Value} (ho : o.op = .makeInterface t x) (hx : ev L x = some v) (hr : ∀ w, (Instr.makeInterface t v).run P w = .ok (.iface t v) w) : Yl P N L o (.iface t v) H :=
  fun a _ w hf _ => by simp [execOp, ho, hf.ev hx, hr]
theorem yl_assert {t u : TypeId} {x : Operand} {v : Value} (ho : o.op = .typeAssert x u t false) (hx : ev L x = some (.iface t v)) (hr : ∀ w, (Instr.typeAssert (.iface t v) u t false).run P w = .ok v w) : Yl P N L o v H :=
  fun a _ w hf _ => by simp [execOp, ho, hf.ev hx, hr]
end nils

/-! ### Maps from keys to ints -/

structure KeyOk (P : Program) {κ : Type} [DecidableEq κ] (kt : TypeId) (kv : κ → Value) : Prop where
  wide : (match P.underlying kt with | some (.array _ _) | some (.struct _) => true | _ => false) = true
  eq : ∀ x y w, (Op.equal kt (kv x) (kv y)).run P w = .ok (decide (x = y)) w
  ck : ∀ e x w, (Instr.checkKey e 10000 kt (kv x)).run P w = .ok () w
  same : ∀ x, Instr.sameBits 10000 (kv x) (kv x) = true

section maps
variable {κ : Type} [DecidableEq κ]

def enE (kv : κ → Value) (x : κ × Int × Nat) : MapEntry := ⟨kv x.1, .int .i64 x.2.1, x.2.2⟩
def lookM : List (κ × Int × Nat) → κ → Int
  | [], _ => 0
  | x :: m, k => if k = x.1 then x.2.1 else lookM m k

theorem lookM_no {m : List (κ × Int × Nat)} {k : κ} (h : ∀ x, x ∈ m → x.1 ≠ k) : lookM m k = 0 := by
  induction m with
  | nil => rfl
  | cons x m ih => rw [lookM, if_neg (fun e => h x (by simp) e.symm), ih (fun y hy => h y (by simp [hy]))]
theorem lookM_at {l1 l2 : List (κ × Int × Nat)} {k : κ} {v : Int} {n : Nat} (h : ∀ x, x ∈ l1 → x.1 ≠ k) : lookM (l1 ++ (k, v, n) :: l2) k = v := by
  induction l1 with
  | nil => simp [lookM]
  | cons x m ih => rw [List.cons_append, lookM, if_neg (fun e => h x (by simp) e.symm), ih (fun y hy => h y (by simp [hy]))]
theorem lookM_put {l1 l2 : List (κ × Int × Nat)} {k k' : κ} {v x : Int} {n : Nat} (h : ∀ y, y ∈ l1 → y.1 ≠ k) : lookM (l1 ++ (k, x, n) :: l2) k' = if k' = k then x else lookM (l1 ++ (k, v, n) :: l2) k' := by
  by_cases e : k' = k
  · subst e; rw [if_pos rfl, lookM_at h]
  · rw [if_neg e]
    clear h
    induction l1 with
    | nil => simp [lookM, e]
    | cons y m ih => rw [List.cons_append, List.cons_append, lookM, lookM, ih]
theorem lookM_push {m : List (κ × Int × Nat)} {k k' : κ} {n : Nat} : lookM (m ++ [(k, 0, n)]) k' = lookM m k' := by
  induction m with
  | nil => simp [lookM]
  | cons y m ih => rw [List.cons_append, lookM, lookM, ih]

def Mp (kv : κ → Value) (g : Nat) (f : κ → Int) : Asr where
  on D h := D = [g] ∧ ∃ m clock, h g = some (.map (m.map (enE kv)).toArray clock) ∧ (∀ k, lookM m k = f k) ∧ (∀ x, x ∈ m → x.2.2 < clock) ∧ (m.map (fun x : κ × Int × Nat => x.2.2)).Nodup
  loc := fun D h h' ⟨e, m, c, hg, hr⟩ he => ⟨e, m, c, by rw [he g (by simp [e])]; exact hg, hr⟩
  dom := fun D h ⟨e, m, c, hg, _⟩ x hx => by subst e; simp only [List.mem_singleton] at hx; subst hx; rw [hg]; rfl

/-- The map, and where in it key k stands. -/
def MpE (kv : κ → Value) (g : Nat) (f : κ → Int) (k : κ) (born : Nat) : Asr where
  on D h := D = [g] ∧ ∃ l1 v l2 clock, h g = some (.map ((l1 ++ (k, v, born) :: l2).map (enE kv)).toArray clock) ∧ (∀ x, x ∈ l1 → x.1 ≠ k) ∧ (∀ k', lookM (l1 ++ (k, v, born) :: l2) k' = f k') ∧ (∀ x, x ∈ l1 ++ (k, v, born) :: l2 → x.2.2 < clock) ∧ ((l1 ++ (k, v, born) :: l2).map (fun x : κ × Int × Nat => x.2.2)).Nodup
  loc := fun D h h' ⟨e, l1, v, l2, c, hg, hr⟩ he => ⟨e, l1, v, l2, c, by rw [he g (by simp [e])]; exact hg, hr⟩
  dom := fun D h ⟨e, l1, v, l2, c, hg, _⟩ x hx => by subst e; simp only [List.mem_singleton] at hx; subst hx; rw [hg]; rfl

variable {P : Program} {kt : TypeId} {kv : κ → Value}

theorem run_asking (K : KeyOk P kt kv) (k : κ) (w : World) : ∀ (m : List (κ × Int × Nat)) (i : Nat),
    ((∀ x, x ∈ m → x.1 ≠ k) ∧ (Instr.findAsking kt (kv k) (m.map (enE kv)) i).run P w = .ok none w) ∨
    ∃ l1 v n l2, m = l1 ++ (k, v, n) :: l2 ∧ (∀ x, x ∈ l1 → x.1 ≠ k) ∧ (Instr.findAsking kt (kv k) (m.map (enE kv)) i).run P w = .ok (some (i + l1.length, .int .i64 v)) w
  | [], i => .inl ⟨by simp, by simp [Instr.findAsking]⟩
  | (k', v, n) :: m, i => by
    by_cases e : k = k'
    · subst e
      exact .inr ⟨[], v, n, m, rfl, by simp, by simp [Instr.findAsking, enE, K.eq]⟩
    · rcases run_asking K k w m (i + 1) with ⟨h1, h2⟩ | ⟨l1, v', n', l2, h1, h2, h3⟩
      · refine .inl ⟨fun x hx => ?_, ?_⟩
        · rcases List.mem_cons.1 hx with rfl | hx
          · exact fun h => e h.symm
          · exact h1 x hx
        · simp only [List.map_cons, Instr.findAsking, Sem.run_bind]
          rw [show (enE kv (k', v, n)).key = kv k' from rfl, K.eq]
          simpa [e] using h2
      · refine .inr ⟨(k', v, n) :: l1, v', n', l2, by rw [h1]; rfl, fun x hx => ?_, ?_⟩
        · rcases List.mem_cons.1 hx with rfl | hx
          · exact fun h => e h.symm
          · exact h2 x hx
        · simp only [List.map_cons, Instr.findAsking, Sem.run_bind]
          rw [show (enE kv (k', v, n)).key = kv k' from rfl, K.eq]
          have h3' := h3
          simp only [List.length_cons]
          rw [show i + (l1.length + 1) = i + 1 + l1.length by omega]
          simpa [e] using h3'

theorem run_look (K : KeyOk P kt kv) {t : TypeId} (ht : P.underlying t = some (.map kt 3)) (hz : ∀ w, (zeroValue 3).run P w = .ok (.int .i64 0) w) {w : World} {g : Nat} {m : List (κ × Int × Nat)} {clock : Nat} (hg : w.heap[g]? = some (.map (m.map (enE kv)).toArray clock)) (k : κ) :
    (Instr.lookup t (.map (some g)) (kv k) false).run P w = .ok (.int .i64 (lookM m k)) w := by
  rcases run_asking K k w m 0 with ⟨h1, h2⟩ | ⟨l1, v, n, l2, h1, h2, h3⟩
  · simp [Instr.lookup, run_underlying ht, MapKept.run_getObj_map hg, K.ck, run_findKey_eq w K.wide, h2, hz, lookM_no h1]
  · rw [show lookM m k = v by rw [h1]; exact lookM_at h2]
    simp [Instr.lookup, run_underlying ht, MapKept.run_getObj_map hg, K.ck, run_findKey_eq w K.wide, h3]

variable {N : Nat} {L : List (Nat × Value)} {o : Oper} {H : List Asr} {b : World} {t : TypeId} {g : Nat} {f : κ → Int} {k : κ}

theorem yl_lookM {x y : Operand} (n : Nat) (K : KeyOk P kt kv) (hn : H[n]? = some (Mp kv g f)) (k : κ) (ho : o.op = .lookup t x y false) (hx : ev L x = some (.map (some g))) (hy : ev L y = some (kv k)) (ht : P.underlying t = some (.map kt 3))
    (hz : ∀ w, (zeroValue 3).run P w = .ok (.int .i64 0) w) : Yl P N L o (.int .i64 (f k)) H := by
  intro a b w hf hw
  obtain ⟨DA, ⟨_, m, c, hg, hl, _⟩, _⟩ := hw.update hn
  rw [← hl k]
  simp [execOp, ho, hf.ev hx, hf.ev hy, run_look K ht hz hg]
theorem yl_lookME {x y : Operand} {k2 : κ} {born : Nat} (n : Nat) (K : KeyOk P kt kv) (hn : H[n]? = some (MpE kv g f k2 born)) (k : κ) (ho : o.op = .lookup t x y false) (hx : ev L x = some (.map (some g))) (hy : ev L y = some (kv k)) (ht : P.underlying t = some (.map kt 3))
    (hz : ∀ w, (zeroValue 3).run P w = .ok (.int .i64 0) w) : Yl P N L o (.int .i64 (f k)) H := by
  intro a b w hf hw
  obtain ⟨DA, ⟨_, l1, v, l2, c, hg, _, hl, _⟩, _⟩ := hw.update hn
  rw [← hl k]
  simp only [execOp, ho, hf.ev hx, hf.ev hy, Sem.run_bind]
  rw [run_look K ht hz hg]
  rfl

theorem setBlock_heap {w : World} {g : Nat} {x y : Obj} (h : w.heap[g]? = some x) : ({ w with heap := w.heap.setIfInBounds g y } : World).heap[g]? = some y := (MapKept.heap_set (o' := y) h).1
theorem setBlock_far {w : World} {g g' : Nat} {x y : Obj} (h : w.heap[g]? = some x) (hne : g' ≠ g) : ({ w with heap := w.heap.setIfInBounds g y } : World).heap[g']? = w.heap[g']? := (MapKept.heap_set (o' := y) h).2 g' hne

theorem ef_entry {x y : Operand} (n : Nat) (K : KeyOk P kt kv) (hn : H[n]? = some (Mp kv g f)) (k : κ) (ho : o.op = .mapEntry t x y) (hx : ev L x = some (.map (some g))) (hy : ev L y = some (kv k)) (ht : P.underlying t = some (.map kt 3))
    (hz : ∀ w, (zeroValue 3).run P w = .ok (.int .i64 0) w) : Ef P N L o b H (fun v H' => ∃ born, v = .tuple #[.int .i64 (f k), .int .i64 (born : Nat)] ∧ H' = H.set n (MpE kv g f k born)) := by
  intro a w hf hw
  obtain ⟨DA, ⟨hD, m, c, hg, hl, hb, hnd⟩, hup⟩ := hw.update hn
  have hg' : w.heap[g]? = some (.map (m.map (enE kv)).toArray c) := hg
  rcases run_asking K k w m 0 with ⟨h1, h2⟩ | ⟨l1, v, n', l2, h1, h2, h3⟩
  · refine ⟨.tuple #[.int .i64 0, .int .i64 (c : Nat)], { w with heap := w.heap.setIfInBounds g (.map ((m ++ [(k, 0, c)]).map (enE kv)).toArray (c + 1)) }, _, ?_, ⟨c, by rw [← hl k, lookM_no h1], rfl⟩, ?_⟩
    · simp [execOp, ho, hf.ev hx, hf.ev hy, Instr.mapEntry, run_underlying ht, MapKept.run_getObj_map hg', K.ck, run_findKey_eq w K.wide, h2, hz, MapKept.run_setObj_map _ hg', enE, goInt]
    · refine hup _ _ [g] rfl rfl rfl ⟨rfl, m, 0, [], c + 1, setBlock_heap hg', h1, fun k' => by rw [lookM_push, hl], ?_, ?_⟩ (fun g' _ hne => setBlock_far hg' (fun e => hne (by rw [hD]; simp [e]))) (by simp) (fun x hx => .inl (by rw [hD]; exact hx))
      · intro x hx
        rcases List.mem_append.1 hx with h | h
        · have := hb x h; omega
        · simp at h; subst h; simp
      · rw [List.map_append, List.nodup_append]
        refine ⟨hnd, by simp, fun x hx y hy => ?_⟩
        obtain ⟨z, hz', rfl⟩ := List.mem_map.1 hx
        simp at hy
        have := hb z hz'
        omega
  · subst h1
    refine ⟨.tuple #[.int .i64 v, .int .i64 (n' : Nat)], { w with heap := w.heap.setIfInBounds g (.map ((l1 ++ (k, v, n') :: l2).map (enE kv)).toArray c) }, _, ?_, ⟨n', by rw [← hl k, lookM_at h2], rfl⟩, ?_⟩
    · have he : ((l1 ++ (k, v, n') :: l2).map (enE kv)).toArray[l1.length]? = some (enE kv (k, v, n')) := by simp
      have hm : ((l1 ++ (k, v, n') :: l2).map (enE kv)).toArray.modify l1.length (fun e => { e with key := kv k }) = ((l1 ++ (k, v, n') :: l2).map (enE kv)).toArray := by
        apply Array.ext_getElem?
        intro i
        rw [Array.getElem?_modify]
        split
        · rename_i hi
          subst hi
          rw [he]
          rfl
        · rfl
      have hst : (Instr.keyThatStays (kv k) (kv k)).run P w = .ok (kv k) w := by simp [Instr.keyThatStays, K.same]
      simp only [execOp, ho, hf.ev hx, hf.ev hy, Instr.mapEntry, Sem.run_bind, run_underlying ht, MapKept.run_getObj_map hg', K.ck, Result.andThen_ok]
      rw [run_findKey_eq w K.wide]
      rw [h3]
      simp only [Result.andThen_ok, Nat.zero_add, he, Option.map_some, Option.getD_some]
      rw [show (enE kv (k, v, n')).key = kv k from rfl, show (enE kv (k, v, n')).born = n' from rfl]
      simp only [Sem.run_bind, hst, Result.andThen_ok, hm, MapKept.run_setObj_map _ hg', Sem.run_pure, goInt]
    · exact hup _ _ [g] rfl rfl rfl ⟨rfl, l1, v, l2, c, setBlock_heap hg', h2, hl, hb, hnd⟩ (fun g' _ hne => setBlock_far hg' (fun e => hne (by rw [hD]; simp [e]))) (by simp) (fun x hx => .inl (by rw [hD]; exact hx))

theorem es_entry {x s y : Operand} {born : Nat} {v : Int} (n : Nat) (hn : H[n]? = some (MpE kv g f k born)) (ho : o.op = .entryStore t x s y) (hx : ev L x = some (.map (some g))) (hs : ev L s = some (.int .i64 (born : Nat))) (hy : ev L y = some (.int .i64 v)) :
    Es P N L o b H (H.set n (Mp kv g (fun k' => if k' = k then v else f k'))) := by
  intro a w hf hw
  obtain ⟨DA, ⟨hD, l1, u, l2, c, hg, h1, hl, hb, hnd⟩, hup⟩ := hw.update hn
  have hg' : w.heap[g]? = some (.map ((l1 ++ (k, u, born) :: l2).map (enE kv)).toArray c) := hg
  have hne1 : ∀ z, z ∈ l1 → z.2.2 ≠ born := by
    rw [List.map_append, List.nodup_append] at hnd
    exact fun z hz e => hnd.2.2 z.2.2 (List.mem_map.2 ⟨z, hz, rfl⟩) born (by simp) e
  refine ⟨{ w with heap := w.heap.setIfInBounds g (.map ((l1 ++ (k, v, born) :: l2).map (enE kv)).toArray c) }, ?_, hup _ _ [g] rfl rfl rfl ⟨rfl, l1 ++ (k, v, born) :: l2, c, setBlock_heap hg', fun k' => ?_, ?_, ?_⟩ (fun g' _ hne => setBlock_far hg' (fun e => hne (by rw [hD]; simp [e]))) (by simp) (fun x hx => .inl (by rw [hD]; exact hx))⟩
  · have hfi : ((l1 ++ (k, u, born) :: l2).map (enE kv)).toArray.findIdx? (fun e => (e.born : Int) == ((born : Nat) : Int)) = some l1.length := by
      rw [List.findIdx?_toArray]
      rw [List.map_append, List.map_cons, List.findIdx?_append]
      have h0 : List.findIdx? (fun e : MapEntry => (e.born : Int) == ((born : Nat) : Int)) (l1.map (enE kv)) = none := by
        rw [List.findIdx?_eq_none_iff]
        intro x hx
        obtain ⟨z, hz, rfl⟩ := List.mem_map.1 hx
        have := hne1 z hz
        simp only [enE, beq_eq_false_iff_ne, ne_eq]
        omega
      rw [h0]
      simp [List.findIdx?_cons, enE]
    have hm : ((l1 ++ (k, u, born) :: l2).map (enE kv)).toArray.modify l1.length (fun e => { e with val := .int .i64 v }) = ((l1 ++ (k, v, born) :: l2).map (enE kv)).toArray := by
      apply Array.ext_getElem?
      intro i
      rw [Array.getElem?_modify]
      simp only [List.getElem?_toArray, List.getElem?_map]
      split
      · rename_i hi
        subst hi
        simp [enE]
      · rename_i hi
        rcases Nat.lt_or_ge i l1.length with h | h
        · rw [List.getElem?_append_left h, List.getElem?_append_left h]
        · rw [List.getElem?_append_right h, List.getElem?_append_right h]
          have : i - l1.length ≠ 0 := by omega
          obtain ⟨j, hj⟩ := Nat.exists_eq_succ_of_ne_zero this
          rw [hj]; simp
    simp only [execOp, ho, hf.ev hx, hf.ev hy, hf.ev hs, Instr.entryStore, Sem.run_bind, MapKept.run_getObj_map hg', Result.andThen_ok, asInt, asIntOf, Sem.run_pure, hfi, hm, MapKept.run_setObj_map _ hg']
  · rw [lookM_put (v := u) h1, hl]
  · intro x hx
    rcases List.mem_append.1 hx with h | h
    · exact hb x (by simp [h])
    · rcases List.mem_cons.1 h with h | h
      · subst h; exact hb (k, u, born) (by simp)
      · exact hb x (by simp [h])
  · simpa using hnd

theorem ef_makeMap (kv : κ → Value) (ho : o.op = .makeMap t none) : Ef P N L o b H (fun v H' => ∃ g, v = .map (some g) ∧ H' = Mp kv g (fun _ => 0) :: H) := by
  intro a w hf hw
  refine ⟨.map (some w.heap.size), w.alloc (.map #[] 0), _, ?_, ⟨w.heap.size, rfl, rfl⟩, hw.push _ [w.heap.size] rfl rfl rfl ⟨rfl, [], 0, heap_alloc_new w _, fun _ => rfl, by simp, by simp⟩ (fun g hg => alloc_old w _ g hg) (by simp) (fun g hg => by simp at hg; omega)⟩
  simp [execOp, ho, Instr.makeMap]

/-- maps.clone, a function without a body. -/
theorem ef_cloneMap {x : Operand} {ti : TypeId} {fid : FuncId} {fn : Func} (n : Nat) (hn : H[n]? = some (Mp kv g f)) {ts : Array TypeId} (ho : o.op = .call { callee := .value (.func fid), args := #[x], argTypes := ts }) (hx : ev L x = some (.iface ti (.map (some g))))
    (hf : P.funcs[fid]? = some fn) (hname : (fn.name == "runtime.NumGoroutine") = false) (hb : fn.body.isNone = true) (hnx : Extern.findNext fn = none) (he : Extern.find fn = some Extern.MapsClone.clone) :
    Ef P N L o b H (fun v H' => ∃ g2, v = .iface ti (.map (some g2)) ∧ H' = Mp kv g2 f :: H) := by
  intro a w hfit hw
  obtain ⟨DA, ⟨hD, m, c, hg, hl, hbn, hnd⟩, _⟩ := hw.update hn
  have hg' : w.heap[g]? = some (.map (m.map (enE kv)).toArray c) := hg
  refine ⟨.iface ti (.map (some w.heap.size)), w.alloc (.map (m.map (enE kv)).toArray c), _, ?_, ⟨w.heap.size, rfl, rfl⟩, hw.push _ [w.heap.size] rfl rfl rfl ⟨rfl, m, c, heap_alloc_new w _, hl, hbn, hnd⟩ (fun g hg => alloc_old w _ g hg) (by simp) (fun g hg => by simp at hg; omega)⟩
  have hc0 : ∃ F : Obj → Sem Value, Extern.MapsClone.clone #[.iface ti (.map (some g))] = (getObj g).bind F ∧ ∀ es c, F (.map es c) = (newObj (.map es c)).bind fun r => pure (.iface ti (.map (some r))) := ⟨_, rfl, fun _ _ => rfl⟩
  obtain ⟨F, hc1, hc2⟩ := hc0
  have hc : (Extern.MapsClone.clone #[.iface ti (.map (some g))]).run P w = .ok (.iface ti (.map (some w.heap.size))) (w.alloc (.map (m.map (enE kv)).toArray c)) := by
    rw [hc1]
    have hb1 : ∀ {α β : Type} (x : Sem α) (k : α → Sem β), (x.bind k).run P w = (x.run P w).andThen fun a w' => (k a).run P w' := fun x k => Sem.run_bind (P := P) (w := w) x k
    rw [hb1, MapKept.run_getObj_map hg', Result.andThen_ok, hc2]
    rfl
  simp only [execOp, ho, resolve, Act.eval, Deferred.ofValue, invoke]
  simp [run_callFunc_extern hf hname hb hnx he, hfit.ev hx, hc]
end maps
end Go.Proofs.Ytcpcgllkdpfacaa

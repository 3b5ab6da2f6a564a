/-
  What each operation does, over the words of K1 and K2.
-/
import Derived.Test.YteecjaiklpkhaaaK2
import Derived.Maps.AppendAt
import Derived.Laws.StructEq
namespace Go.Proofs.Yteecjaiklpkhaaa
open Go

/-! ### Cells -/

/-- In whatever world that meets H, the cell at p holds v. -/
def CellAt (H : List Asr) (p : Addr) (v : Value) : Prop := ∀ b w, Holds b H w → w.cell? p = some v

theorem CellAt.cons {H : List Asr} {p : Addr} {v : Value} (h : CellAt H p v) (A : Asr) : CellAt (A :: H) p v := fun b w hw => h b w hw.tail
theorem CellAt.app {H : List Asr} {p : Addr} {v : Value} (h : CellAt H p v) (Hr : List Asr) : CellAt (Hr ++ H) p v := fun b w hw => h b w hw.append_right

theorem add_add (a : Addr) (i j : Nat) : (a.add i).add j = a.add (i + j) := by
  unfold Addr.add
  by_cases hi : i = 0 <;> by_cases hj : j = 0 <;> simp [hi, hj, Nat.add_assoc]
theorem add_block (a : Addr) (i : Nat) : (a.add i).block = a.block := by unfold Addr.add; split <;> rfl
theorem add_mk (g i j : Nat) : (⟨g, i, none⟩ : Addr).add j = ⟨g, i + j, none⟩ := by unfold Addr.add; split <;> simp_all

/-- A block that is known whole. -/
def Bk (g : Nat) (t : TypeId) (cs : List Value) : Asr where
  on D h := D = [g] ∧ h g = some (.cells cs.toArray t (0, 0))
  loc := fun D h h' ⟨e, hg⟩ he => ⟨e, by rw [he g (by simp [e])]; exact hg⟩
  dom := fun D h ⟨e, hg⟩ x hx => by subst e; simp only [List.mem_singleton] at hx; subst hx; rw [hg]; rfl

theorem CellAt.bk {H : List Asr} {g : Nat} {t : TypeId} {cs : List Value} {i : Nat} {v : Value} (n : Nat) (hn : H[n]? = some (Bk g t cs)) (hv : cs[i]? = some v) : CellAt H ⟨g, i, none⟩ v := by
  intro b w hw
  obtain ⟨DA, ⟨_, hg⟩, _⟩ := hw.update hn
  have hg' : w.heap[g]? = some (.cells cs.toArray t (0, 0)) := hg
  rw [cell_of_row w g i _ t (0, 0) hg']
  simpa using hv

theorem CellAt.bkAdd {H : List Asr} {g : Nat} {t : TypeId} {cs : List Value} {i j : Nat} {v : Value} (n : Nat) (hn : H[n]? = some (Bk g t cs)) (hv : cs[i + j]? = some v) : CellAt H ((⟨g, i, none⟩ : Addr).add j) v := by
  rw [add_mk]; exact CellAt.bk n hn hv

/-! ### Data of several cells, slices of them -/

class Enc (α : Type) where
  size : Nat
  cells : α → List Value
  len : ∀ x, (cells x).length = size
  one : ∀ x u, u ∈ cells x → u.oneCell' = true

def flat {α : Type} [Enc α] (xs : List α) : List Value := xs.flatMap Enc.cells

section flat
variable {α : Type} [Enc α]
theorem flat_nil : flat ([] : List α) = [] := rfl
theorem flat_cons (x : α) (xs : List α) : flat (x :: xs) = Enc.cells x ++ flat xs := rfl
theorem flat_append (xs ys : List α) : flat (xs ++ ys) = flat xs ++ flat ys := by simp [flat]
theorem flat_length (xs : List α) : (flat xs).length = xs.length * Enc.size α := by
  induction xs with
  | nil => simp [flat]
  | cons x xs ih => rw [flat_cons, List.length_append, ih, Enc.len, List.length_cons, Nat.add_mul, Nat.one_mul, Nat.add_comm]
theorem flat_one (xs : List α) (u : Value) (h : u ∈ flat xs) : u.oneCell' = true := by
  unfold flat at h
  obtain ⟨x, _, hx⟩ := List.mem_flatMap.1 h
  exact Enc.one x u hx
theorem flat_get : ∀ (xs : List α) (j : Nat) (x : α) (i : Nat) (v : Value), xs[j]? = some x → (Enc.cells x)[i]? = some v → (flat xs)[j * Enc.size α + i]? = some v
  | [], j, x, i, v, h, _ => by simp at h
  | y :: ys, 0, x, i, v, h, hv => by
    simp only [List.getElem?_cons_zero, Option.some.injEq] at h
    subst h
    rw [flat_cons, Nat.zero_mul, Nat.zero_add, List.getElem?_append_left (List.getElem?_eq_some_iff.1 hv).1]
    exact hv
  | y :: ys, j + 1, x, i, v, h, hv => by
    simp only [List.getElem?_cons_succ] at h
    rw [flat_cons, List.getElem?_append_right (by rw [Enc.len, Nat.add_mul]; omega), Enc.len, show (j + 1) * Enc.size α + i - Enc.size α = j * Enc.size α + i by rw [Nat.add_mul]; omega]
    exact flat_get ys j x i v h hv
theorem flat_inj_at (xs : List α) (j : Nat) (h : j < (flat xs).length) : ∃ k x i, xs[k]? = some x ∧ i < Enc.size α ∧ j = k * Enc.size α + i := by
  rw [flat_length] at h
  have hs : 0 < Enc.size α := by
    rcases Nat.eq_zero_or_pos (Enc.size α) with h0 | h0
    · rw [h0] at h; omega
    · exact h0
  have h1 : j / Enc.size α < xs.length := (Nat.div_lt_iff_lt_mul hs).2 h
  exact ⟨j / Enc.size α, xs[j / Enc.size α], j % Enc.size α, List.getElem?_eq_getElem h1, Nat.mod_lt _ hs, by rw [Nat.mul_comm]; exact (Nat.div_add_mod j (Enc.size α)).symm⟩
end flat

/-- A slice that the call made itself: nil, or at the head of a block of its own. Its value is '.slice A xs.length c'. -/
def Sl {α : Type} [Enc α] (A : Option Addr) (c : Nat) (e : TypeId) (xs : List α) : Asr where
  on D h := (A = none ∧ c = 0 ∧ xs = [] ∧ D = []) ∨ ∃ g cur, A = some ⟨g, 0, none⟩ ∧ D = [g] ∧ h g = some (.cells cur e (0, 0)) ∧ xs.length ≤ c ∧ c ≤ maxLen ∧ cur.size = c * Enc.size α ∧
    cur.toList.take (xs.length * Enc.size α) = flat xs
  loc := fun D h h' hs he => by
    rcases hs with hs | ⟨g, cur, h1, h2, h3, hr⟩
    · exact .inl hs
    · exact .inr ⟨g, cur, h1, h2, by rw [he g (by simp [h2])]; exact h3, hr⟩
  dom := fun D h hs x hx => by
    rcases hs with ⟨_, _, _, e⟩ | ⟨g, cur, h1, h2, h3, hr⟩
    · subst e; simp at hx
    · subst h2; simp only [List.mem_singleton] at hx; subst hx; rw [h3]; rfl

section sl
variable {α : Type} [Enc α] {A : Option Addr} {c : Nat} {e : TypeId} {xs : List α} {w : World}

theorem Sl.owns {D : List Nat} (h : (Sl A c e xs).on D (fun g => w.heap[g]?)) :
    w.ownsRow 0 e (Enc.size α) (.slice A xs.length c) xs.length (flat xs) ∧ D = (Value.ownBlock (.slice A xs.length c)).toList := by
  rcases h with ⟨h1, h2, h3, h4⟩ | ⟨g, cur, h1, h2, h3, h4, h5, h6, h7⟩
  · subst h1; subst h2; subst h3; subst h4
    exact ⟨⟨by simp [flat], .inl ⟨rfl, rfl⟩⟩, rfl⟩
  · subst h1; subst h2
    exact ⟨⟨flat_length xs, .inr ⟨g, c, cur, rfl, Nat.zero_le _, h3, h4, h5, h6, h7⟩⟩, rfl⟩

theorem Sl.of_owns {v : Value} (h : w.ownsRow 0 e (Enc.size α) v xs.length (flat xs)) :
    ∃ A c, v = .slice A xs.length c ∧ (Sl A c e xs).on v.ownBlock.toList (fun g => w.heap[g]?) := by
  obtain ⟨_, h | ⟨g, cap, cur, hv, _, hg, h4, h5, h6, h7⟩⟩ := h
  · obtain ⟨h1, h2⟩ := h
    have hx : xs = [] := List.eq_nil_of_length_eq_zero h2
    subst hx; subst h1
    exact ⟨none, 0, rfl, .inl ⟨rfl, rfl, rfl, rfl⟩⟩
  · subst hv
    exact ⟨some ⟨g, 0, none⟩, cap, rfl, .inr ⟨g, cur, rfl, rfl, hg, h4, h5, h6, h7⟩⟩
end sl

/-- In whatever world that meets H, the slice at A reads xs. -/
def Rd {α : Type} [Enc α] (H : List Asr) (A : Option Addr) (xs : List α) : Prop :=
  ∀ b w, Holds b H w → xs ≠ [] → ∃ ad, A = some ad ∧ ∀ j u, (flat xs)[j]? = some u → w.cell? (ad.add j) = some u

/-- The address of cell m of a slice. -/
def sa (A : Option Addr) (m : Nat) : Addr := (A.getD ⟨0, 0, none⟩).add m

section rd
variable {α : Type} [Enc α] {A : Option Addr} {xs : List α} {H : List Asr}
theorem Rd.cons (h : Rd H A xs) (B : Asr) : Rd (B :: H) A xs := fun b w hw hx => h b w hw.tail hx
theorem Rd.app (h : Rd H A xs) (Hr : List Asr) : Rd (Hr ++ H) A xs := fun b w hw hx => h b w hw.append_right hx
theorem Rd.pre {H' : List Asr} (h : Rd H A xs) (hh : ∀ b w, Holds b H' w → Holds b H w) : Rd H' A xs := fun b w hw hx => h b w (hh b w hw) hx
theorem Rd.nil : Rd H A ([] : List α) := fun _ _ _ hx => absurd rfl hx
theorem Rd.cell (h : Rd H A xs) {j : Nat} {x : α} {i : Nat} {v : Value} (hj : xs[j]? = some x) (hv : (Enc.cells x)[i]? = some v) : CellAt H (sa A (j * Enc.size α + i)) v := by
  intro b w hw
  obtain ⟨ad, e, hc⟩ := h b w hw (by rintro rfl; simp at hj)
  subst e
  exact hc _ v (flat_get xs j x i v hj hv)
theorem Rd.cell2 (h : Rd H A xs) {j : Nat} {x : α} {i : Nat} {v : Value} (hj : xs[j]? = some x) (hv : (Enc.cells x)[i]? = some v) : CellAt H ((sa A (j * Enc.size α)).add i) v := by
  have := h.cell hj hv
  unfold sa at this ⊢
  rwa [add_add]
theorem Rd.of_sl {c : Nat} {e : TypeId} (n : Nat) (hn : H[n]? = some (Sl A c e xs)) : Rd H A xs := by
  intro b w hw hx
  obtain ⟨DA, hs, _⟩ := hw.update hn
  rcases hs with ⟨_, _, h3, _⟩ | ⟨g, cur, h1, h2, h3, h4, h5, h6, h7⟩
  · exact absurd h3 hx
  · refine ⟨⟨g, 0, none⟩, h1, fun j u hu => ?_⟩
    have h3' : w.heap[g]? = some (.cells cur e (0, 0)) := h3
    rw [add_mk, Nat.zero_add, cell_of_row w g j cur e (0, 0) h3']
    rw [← h7, List.getElem?_take] at hu
    split at hu
    · simpa using hu
    · cases hu
theorem Rd.isSome (h : Rd H A xs) {b : World} {w : World} (hw : Holds b H w) {j : Nat} {x : α} (hj : xs[j]? = some x) : ∃ ad, A = some ad := by
  obtain ⟨ad, e, _⟩ := h b w hw (by rintro rfl; simp at hj)
  exact ⟨ad, e⟩
end rd

/-! ### Operations that only read -/

section yl
variable {P : Program} {N : Nat} {L : List (Nat × Value)} {o : Oper} {H : List Asr}

theorem yl_move {x : Operand} {v : Value} (ho : o.op = .move x) (hx : ev L x = some v) : Yl P N L o v H := fun a _ w hf _ => by simp [execOp, ho, hf.ev hx]
theorem yl_assign {x : Operand} {v : Value} (ho : o.op = .assign x) (hx : ev L x = some v) : Yl P N L o v H := fun a _ w hf _ => by simp [execOp, ho, hf.ev hx]
theorem yl_pickT {c x y : Operand} {v : Value} (ho : o.op = .pick c x y) (hc : ev L c = some (.bool true)) (hx : ev L x = some v) : Yl P N L o v H := fun a _ w hf _ => by
  simp [execOp, ho, hf.ev hx, hf.ev hc, asBool]
theorem yl_pickF {c x y : Operand} {v : Value} (ho : o.op = .pick c x y) (hc : ev L c = some (.bool false)) (hy : ev L y = some v) : Yl P N L o v H := fun a _ w hf _ => by
  simp [execOp, ho, hf.ev hy, hf.ev hc, asBool]
theorem yl_extract {x : Operand} {i : Nat} {vs : Array Value} {v : Value} (ho : o.op = .extract x i) (hx : ev L x = some (.tuple vs)) (hv : vs[i]? = some v) : Yl P N L o v H := fun a _ w hf _ => by
  simp [execOp, ho, hf.ev hx, Instr.extract, hv]
theorem yl_not {t : TypeId} {x : Operand} {u : Bool} (ho : o.op = .unOp .not t x) (hx : ev L x = some (.bool u)) : Yl P N L o (.bool (!u)) H := fun a _ w hf _ => by
  simp [execOp, ho, hf.ev hx, Op.unary]
theorem yl_notT {t : TypeId} {x : Operand} (ho : o.op = .unOp .not t x) (hx : ev L x = some (.bool true)) : Yl P N L o (.bool false) H := yl_not ho hx
theorem yl_notF {t : TypeId} {x : Operand} (ho : o.op = .unOp .not t x) (hx : ev L x = some (.bool false)) : Yl P N L o (.bool true) H := yl_not ho hx

theorem yl_boolT {t : Bool} (h : Yl P N L o (.bool t) H) (e : t = true) : Yl P N L o (.bool true) H := by subst e; exact h
theorem yl_boolF {t : Bool} (h : Yl P N L o (.bool t) H) (e : t = false) : Yl P N L o (.bool false) H := by subst e; exact h
theorem yl_as {v u : Value} (h : Yl P N L o v H) (e : v = u) : Yl P N L o u H := by subst e; exact h

/-- A binary operation on integers whose run is known. -/
theorem yl_bin {op : BinOp} {t t2 : TypeId} {x y : Operand} {k k' : IntKind} {m n : Int} {v : Value} (ho : o.op = .binOp op t x y t2) (hx : ev L x = some (.int k m)) (hy : ev L y = some (.int k' n))
    (hr : ∀ w, (binOp op t (.int k m) (.int k' n)).run P w = .ok v w) : Yl P N L o v H := fun a _ w hf _ => by
  simp [execOp, ho, hf.ev hx, hf.ev hy, eqGuard_at_int, hr]

theorem yl_add {t t2 : TypeId} {x y : Operand} {k : IntKind} {m n r : Int} (ho : o.op = .binOp .add t x y t2) (hx : ev L x = some (.int k m)) (hy : ev L y = some (.int k n)) (hr : k.wrap (m + n) = r) : Yl P N L o (.int k r) H :=
  yl_bin ho hx hy fun w => by subst hr; simp [binOp_add, Op.intArith]
theorem yl_sub {t t2 : TypeId} {x y : Operand} {k : IntKind} {m n r : Int} (ho : o.op = .binOp .sub t x y t2) (hx : ev L x = some (.int k m)) (hy : ev L y = some (.int k n)) (hr : k.wrap (m - n) = r) : Yl P N L o (.int k r) H :=
  yl_bin ho hx hy fun w => by subst hr; simp [binOp_sub, Op.intArith]
theorem yl_mul {t t2 : TypeId} {x y : Operand} {k : IntKind} {m n r : Int} (ho : o.op = .binOp .mul t x y t2) (hx : ev L x = some (.int k m)) (hy : ev L y = some (.int k n)) (hr : k.wrap (m * n) = r) : Yl P N L o (.int k r) H :=
  yl_bin ho hx hy fun w => by subst hr; simp [binOp_mul, Op.intArith]
theorem yl_quo {t t2 : TypeId} {x y : Operand} {k : IntKind} {m n r : Int} (ho : o.op = .binOp .quo t x y t2) (hx : ev L x = some (.int k m)) (hy : ev L y = some (.int k n)) (hn : n ≠ 0) (hr : k.wrap (m.tdiv n) = r) : Yl P N L o (.int k r) H :=
  yl_bin ho hx hy fun w => by subst hr; simp [binOp_quo, Op.intDiv, hn]
theorem yl_rem {t t2 : TypeId} {x y : Operand} {k : IntKind} {m n r : Int} (ho : o.op = .binOp .rem t x y t2) (hx : ev L x = some (.int k m)) (hy : ev L y = some (.int k n)) (hn : n ≠ 0) (hr : m.tmod n = r) : Yl P N L o (.int k r) H :=
  yl_bin ho hx hy fun w => by subst hr; simp [binOp_rem, Op.intDiv, hn]
theorem yp_lss {t t2 : TypeId} {x y : Operand} {k : IntKind} {m n : Int} (ho : o.op = .binOp .lss t x y t2) (hx : ev L x = some (.int k m)) (hy : ev L y = some (.int k n)) : Yp P N L o (m < n) H :=
  ⟨fun h => yl_bin ho hx hy fun w => by simp [binOp_lss, h], fun h => yl_bin ho hx hy fun w => by simp [binOp_lss, h]⟩
theorem yp_leq {t t2 : TypeId} {x y : Operand} {k : IntKind} {m n : Int} (ho : o.op = .binOp .leq t x y t2) (hx : ev L x = some (.int k m)) (hy : ev L y = some (.int k n)) : Yp P N L o (m ≤ n) H :=
  ⟨fun h => yl_bin ho hx hy fun w => by simp [binOp_leq, h], fun h => yl_bin ho hx hy fun w => by simp only [binOp_leq, Sem.run_pure]; rw [decide_eq_false h]⟩
theorem yp_gtr {t t2 : TypeId} {x y : Operand} {k : IntKind} {m n : Int} (ho : o.op = .binOp .gtr t x y t2) (hx : ev L x = some (.int k m)) (hy : ev L y = some (.int k n)) : Yp P N L o (n < m) H :=
  ⟨fun h => yl_bin ho hx hy fun w => by simp [binOp_gtr, h], fun h => yl_bin ho hx hy fun w => by simp [binOp_gtr, h]⟩
theorem yp_geq {t t2 : TypeId} {x y : Operand} {k : IntKind} {m n : Int} (ho : o.op = .binOp .geq t x y t2) (hx : ev L x = some (.int k m)) (hy : ev L y = some (.int k n)) : Yp P N L o (n ≤ m) H :=
  ⟨fun h => yl_bin ho hx hy fun w => by simp [binOp_geq, h], fun h => yl_bin ho hx hy fun w => by simp only [binOp_geq, Sem.run_pure]; rw [decide_eq_false h]⟩
theorem yp_eql {t t2 : TypeId} {x y : Operand} {k : IntKind} {m n : Int} (ho : o.op = .binOp .eql t x y t2) (hx : ev L x = some (.int k m)) (hy : ev L y = some (.int k n)) : Yp P N L o (m = n) H :=
  ⟨fun h => yl_bin ho hx hy fun w => by simp [binOp_eql, h], fun h => yl_bin ho hx hy fun w => by simp [binOp_eql, h]⟩
theorem yp_neq {t t2 : TypeId} {x y : Operand} {k : IntKind} {m n : Int} (ho : o.op = .binOp .neq t x y t2) (hx : ev L x = some (.int k m)) (hy : ev L y = some (.int k n)) : Yp P N L o (m ≠ n) H :=
  ⟨fun h => yl_bin ho hx hy fun w => by simp [binOp_neq, h], fun h => yl_bin ho hx hy fun w => by have h' : m = n := Decidable.not_not.1 h; simp [binOp_neq, h']⟩
theorem yp_eqb {t t2 : TypeId} {x y : Operand} {m n : Bool} (ho : o.op = .binOp .eql t x y t2) (hx : ev L x = some (.bool m)) (hy : ev L y = some (.bool n)) (ht : P.underlying t = some .bool) : Yp P N L o (m = n) H :=
  ⟨fun h a _ w hf _ => by subst h; simp [execOp, ho, hf.ev hx, hf.ev hy, eqGuard_at_bool, run_eql_bool w t m m ht],
   fun h a _ w hf _ => by simp [execOp, ho, hf.ev hx, hf.ev hy, eqGuard_at_bool, run_eql_bool w t m n ht, h]⟩
theorem yp_neb {t t2 : TypeId} {x y : Operand} {m n : Bool} (ho : o.op = .binOp .neq t x y t2) (hx : ev L x = some (.bool m)) (hy : ev L y = some (.bool n)) (ht : P.underlying t = some .bool) : Yp P N L o (m ≠ n) H :=
  ⟨fun h a _ w hf _ => by simp [execOp, ho, hf.ev hx, hf.ev hy, eqGuard_at_bool, run_neq_bool w t m n ht, h],
   fun h a _ w hf _ => by have h' : m = n := Decidable.not_not.1 h; subst h'; simp [execOp, ho, hf.ev hx, hf.ev hy, eqGuard_at_bool, run_neq_bool w t m m ht]⟩
/-- Two structs: what '==' on their cells comes to. -/
theorem yp_eqAgg {t t2 : TypeId} {x y : Operand} {xs ys : Array Value} {p : Prop} (ho : o.op = .binOp .eql t x y t2) (hx : ev L x = some (.agg xs)) (hy : ev L y = some (.agg ys)) (hm : P.eqGuardType P.depth t = false)
    (h1 : p → ∀ w, (Op.equalIn 10000 t (.agg xs) (.agg ys)).run P w = .ok true w) (h2 : ¬ p → ∀ w, (Op.equalIn 10000 t (.agg xs) (.agg ys)).run P w = .ok false w) : Yp P N L o p H :=
  ⟨fun h a _ w hf _ => by simp [execOp, ho, hf.ev hx, hf.ev hy, run_eqGuard_agg w _ t _ _ xs ys hm, run_eql_struct, h1 h w],
   fun h a _ w hf _ => by simp [execOp, ho, hf.ev hx, hf.ev hy, run_eqGuard_agg w _ t _ _ xs ys hm, run_eql_struct, h2 h w]⟩
theorem yp_neAgg {t t2 : TypeId} {x y : Operand} {xs ys : Array Value} {p : Prop} (ho : o.op = .binOp .neq t x y t2) (hx : ev L x = some (.agg xs)) (hy : ev L y = some (.agg ys)) (hm : P.eqGuardType P.depth t = false)
    (h1 : p → ∀ w, (Op.equalIn 10000 t (.agg xs) (.agg ys)).run P w = .ok true w) (h2 : ¬ p → ∀ w, (Op.equalIn 10000 t (.agg xs) (.agg ys)).run P w = .ok false w) : Yp P N L o (¬ p) H :=
  ⟨fun h a _ w hf _ => by simp [execOp, ho, hf.ev hx, hf.ev hy, run_eqGuard_agg w _ t _ _ xs ys hm, run_neq_struct, h2 h w],
   fun h a _ w hf _ => by simp [execOp, ho, hf.ev hx, hf.ev hy, run_eqGuard_agg w _ t _ _ xs ys hm, run_neq_struct, h1 (Classical.not_not.1 h) w]⟩

theorem yl_conv {s d : TypeId} {x : Operand} {k k' : IntKind} {n r : Int} (ho : o.op = .convert s d x) (hx : ev L x = some (.int k' n)) (hs : (P.underlying s).isSome = true) (hd : P.underlying d = some (.int k)) (hr : k.wrap n = r) : Yl P N L o (.int k r) H :=
  fun a _ w hf _ => by
    obtain ⟨ds, hds⟩ := Option.isSome_iff_exists.1 hs
    subst hr
    simp [execOp, ho, hf.ev hx, convert, run_underlying hds, run_underlying hd, Conv.intToInt]

theorem yl_max {x y : Operand} {k k' : IntKind} {m n : Int} {ts : Array TypeId} (ho : o.op = .call { callee := .builtin .max, args := #[x, y], argTypes := ts }) (hx : ev L x = some (.int k m)) (hy : ev L y = some (.int k' n)) :
    Yl P N L o (.int k (max m n)) H := fun a _ w hf _ => by
  have : (if n > m then n else m) = max m n := by omega
  simp [execOp, ho, resolve, invoke, builtin, hf.ev hx, hf.ev hy, run_max_int2, this]
theorem yl_min {x y : Operand} {k k' : IntKind} {m n : Int} {ts : Array TypeId} (ho : o.op = .call { callee := .builtin .min, args := #[x, y], argTypes := ts }) (hx : ev L x = some (.int k m)) (hy : ev L y = some (.int k' n)) :
    Yl P N L o (.int k (min m n)) H := fun a _ w hf _ => by
  have : (if n < m then n else m) = min m n := by omega
  simp [execOp, ho, resolve, invoke, builtin, hf.ev hx, hf.ev hy, run_min_int2, this]
theorem yl_len {x : Operand} {t e : TypeId} {A : Option Addr} {n c : Nat} (ho : o.op = .call { callee := .builtin .len, args := #[x], argTypes := #[t] }) (hx : ev L x = some (.slice A n c)) (ht : P.underlying t = some (.slice e)) :
    Yl P N L o (.int .i64 n) H := fun a _ w hf _ => by
  simp [execOp, ho, resolve, invoke, builtin, hf.ev hx, Builtin.len_, run_underlying ht, goInt]

theorem yl_nilCheck {x : Operand} {p : Addr} (ho : o.op = .nilCheck x) (hx : ev L x = some (.pointer (some p))) : Yl P N L o (.pointer (some p)) H := fun a _ w hf _ => by
  simp [execOp, ho, hf.ev hx]

theorem yl_field {s : TypeId} {x : Operand} {i off : Nat} {p : Addr} {fs : Array Field} {f : Field} (ho : o.op = .fieldAddr s x i) (hx : ev L x = some (.pointer (some p))) (hs : P.underlying s = some (.struct fs)) (hf' : fs[i]? = some f)
    (hz : Nat.beq (P.cellsOf f.type) 0 = false) (hoff : f.offset = off) : Yl P N L o (.pointer (some (p.add off))) H := fun a _ w hf _ => by
  have hz' : P.cellsOf f.type ≠ 0 := Nat.ne_of_beq_eq_false hz
  subst hoff
  cases hq : P.info? f.type with
  | none => simp [Program.cellsOf, hq] at hz'
  | some j =>
    have : j.size ≠ 0 := by simpa [Program.cellsOf, hq] using hz'
    simp [execOp, ho, hf.ev hx, Instr.fieldAt, run_underlying hs, hf', Instr.sureAddr, fieldPlace, sizeOf, typeInfo, hq, this]

theorem yl_fieldB {s : TypeId} {x : Operand} {i j off g : Nat} {fs : Array Field} {f : Field} (ho : o.op = .fieldAddr s x i) (hx : ev L x = some (.pointer (some ⟨g, j, none⟩))) (hs : P.underlying s = some (.struct fs)) (hf' : fs[i]? = some f)
    (hz : Nat.beq (P.cellsOf f.type) 0 = false) (hoff : f.offset = off) : Yl P N L o (.pointer (some ⟨g, j + off, none⟩)) H := by
  have := yl_field (P := P) (N := N) (L := L) (o := o) (H := H) ho hx hs hf' hz hoff
  rwa [add_mk] at this

theorem yl_index {α : Type} [Enc α] {t e : TypeId} {x ix : Operand} {A : Option Addr} {n c j : Nat} {k : IntKind} {i : Int} {xs : List α} {y : α} (ho : o.op = .indexAddr t x ix) (hx : ev L x = some (.slice A n c)) (hi : ev L ix = some (.int k i))
    (hr : Rd H A xs) (hj : xs[j]? = some y) (hij : i = (j : Int)) (hn : n = xs.length) (ht : P.underlying t = some (.slice e)) (hs : P.cellsOf e = Enc.size α) (hz : Nat.beq (Enc.size α) 0 = false) : Yl P N L o (.pointer (some (sa A (j * Enc.size α)))) H := by
  intro a b w hf hw
  obtain ⟨ad, rfl⟩ := hr.isSome hw hj
  have hjl : j < xs.length := (List.getElem?_eq_some_iff.1 hj).1
  subst hij; subst hn
  have hz' : Enc.size α ≠ 0 := Nat.ne_of_beq_eq_false hz
  cases hq : P.info? e with
  | none => simp [Program.cellsOf, hq] at hs; omega
  | some jj =>
    have hsz : jj.size = Enc.size α := by simpa [Program.cellsOf, hq] using hs
    have hc : (0 : Int) ≤ (j : Int) ∧ (j : Int) < (xs.length : Int) := by omega
    simp [execOp, ho, hf.ev hx, hf.ev hi, Instr.indexAt, asIntOf, run_underlying ht, hjl, sizeOf, typeInfo, hq, hsz, sa]

/-- A variable of one cell. -/
theorem yl_load {t : TypeId} {x : Operand} {p : Addr} {v : Value} {d : TypeDesc} (ho : o.op = .load t x) (hx : ev L x = some (.pointer (some p))) (ht : P.underlying t = some d) (hd : (match d with | .struct _ | .array _ _ => false | _ => true) = true)
    (hc : CellAt H p v) : Yl P N L o v H := fun a b w hf hw => by
  have hcell := hc b w hw
  have hagg : (isAgg t).run P w = .ok false w := by
    unfold isAgg
    rw [Sem.run_bind, run_underlying ht w]
    cases d <;> simp_all
  simp [execOp, ho, hf.ev hx, Instr.loadAt, Instr.sureAddr, loadVar, hagg, hcell]

/-- A variable of several cells. -/
theorem yl_loadN {t : TypeId} {x : Operand} {p : Addr} {cs : List Value} {d : TypeDesc} (ho : o.op = .load t x) (hx : ev L x = some (.pointer (some p))) (ht : P.underlying t = some d) (hd : (match d with | .struct _ | .array _ _ => true | _ => false) = true)
    (hs : (P.info? t).map (·.size) = some cs.length) (hc : ∀ i v, cs[i]? = some v → CellAt H (p.add i) v) : Yl P N L o (.agg cs.toArray) H := fun a b w hf hw => by
  have hagg : (isAgg t).run P w = .ok true w := by
    unfold isAgg
    rw [Sem.run_bind, run_underlying ht w]
    cases d <;> simp_all
  have hl : (loadCells p cs.length).run P w = .ok cs.toArray w := run_loadCells_list (P := P) w p cs (fun j v hv => hc j v hv b w hw)
  cases hq : P.info? t with
  | none => simp [hq] at hs
  | some i =>
    have hsz : i.size = cs.length := by simpa [hq] using hs
    simp [execOp, ho, hf.ev hx, Instr.loadAt, Instr.sureAddr, loadVar, hagg, sizeOf, typeInfo, hq, hsz, hl]

theorem yl_loadRow {α : Type} [Enc α] {t : TypeId} {x : Operand} {A : Option Addr} {j : Nat} {xs : List α} {y : α} {d : TypeDesc} {cs : List Value} (ho : o.op = .load t x) (hx : ev L x = some (.pointer (some (sa A (j * Enc.size α))))) (hr : Rd H A xs) (hj : xs[j]? = some y)
    (ht : P.underlying t = some d) (hd : (match d with | .struct _ | .array _ _ => true | _ => false) = true)
    (hs : (P.info? t).map (·.size) = some cs.length) (hcs : Enc.cells y = cs) : Yl P N L o (.agg cs.toArray) H :=
  yl_loadN ho hx ht hd hs (fun i v hv => hr.cell2 hj (by rw [hcs]; exact hv))

theorem yl_loadBk {t T : TypeId} {x : Operand} {g : Nat} {cs : List Value} {d : TypeDesc} (n : Nat) (ho : o.op = .load t x) (hx : ev L x = some (.pointer (some ⟨g, 0, none⟩))) (hn : H[n]? = some (Bk g T cs))
    (ht : P.underlying t = some d) (hd : (match d with | .struct _ | .array _ _ => true | _ => false) = true) (hs : (P.info? t).map (·.size) = some cs.length) : Yl P N L o (.agg cs.toArray) H :=
  yl_loadN ho hx ht hd hs (fun i v hv => CellAt.bkAdd n hn (by simpa using hv))

/-- A struct result and another. -/
theorem resC1 {fn : Func} {t T : TypeId} {a u g : Nat} {cs : List Value} {d : TypeDesc} {y : Value} (n : Nat) (h : fn.results = #[.cell a t, .tmp u]) (ha : get L a = some (.pointer (some ⟨g, 0, none⟩))) (hn : H[n]? = some (Bk g T cs))
    (ht : P.underlying t = some d) (hd : (match d with | .struct _ | .array _ _ => true | _ => false) = true) (hs : (P.info? t).map (·.size) = some cs.length) (hu : get L u = some y) : Res P fn N L H (.tuple #[.agg cs.toArray, y]) := by
  intro ac b w hf hw
  obtain ⟨DA, ⟨_, hg⟩, _⟩ := hw.update hn
  have hg' : w.heap[g]? = some (.cells cs.toArray T (0, 0)) := hg
  have hl := run_loadVar_row (P := P) w g T t cs.toArray (0, 0) d hg' ht hd (by simpa using hs)
  simp [results, h, hf.val a _ ha, hf.val u _ hu, asAddr, hl]
theorem resC {fn : Func} {t T : TypeId} {a g : Nat} {cs : List Value} {d : TypeDesc} (n : Nat) (h : fn.results = #[.cell a t]) (ha : get L a = some (.pointer (some ⟨g, 0, none⟩))) (hn : H[n]? = some (Bk g T cs))
    (ht : P.underlying t = some d) (hd : (match d with | .struct _ | .array _ _ => true | _ => false) = true) (hs : (P.info? t).map (·.size) = some cs.length) : Res P fn N L H (.agg cs.toArray) := by
  intro ac b w hf hw
  obtain ⟨DA, ⟨_, hg⟩, _⟩ := hw.update hn
  have hg' : w.heap[g]? = some (.cells cs.toArray T (0, 0)) := hg
  have hl := run_loadVar_row (P := P) w g T t cs.toArray (0, 0) d hg' ht hd (by simpa using hs)
  simp [results, h, hf.val a _ ha, asAddr, hl]

theorem w64 {n : Int} (h1 : -9223372036854775808 ≤ n) (h2 : n ≤ 9223372036854775807) : IntKind.i64.wrap n = n := IntWalk.i64_in n ⟨by omega, by omega⟩

/-- A value that is built. -/
def evp (L : List (Nat × Value)) : List (Nat × Operand) → Option (List (Nat × Value))
  | [] => some []
  | (i, x) :: r => match ev L x, evp L r with | some v, some vs => some ((i, v) :: vs) | _, _ => none
theorem Fit.evp {a : Act} (hf : Fit N L a) : ∀ (ps : List (Nat × Operand)) (vs : List (Nat × Value)), evp L ps = some vs → (ps.map fun p => (p.1, a.eval p.2)) = vs
  | [], vs, h => by simp only [Go.Proofs.Yteecjaiklpkhaaa.evp, Option.some.injEq] at h; subst h; rfl
  | (i, x) :: r, vs, h => by
    simp only [Go.Proofs.Yteecjaiklpkhaaa.evp] at h
    split at h
    · rename_i v us hv hus
      simp only [Option.some.injEq] at h
      subst h
      simp only [List.map_cons, hf.ev hv, hf.evp r us hus]
    · cases h
theorem yl_build {t : TypeId} {ps : List (Nat × Operand)} {vs : List (Nat × Value)} {cs : List Value} (ho : o.op = .build t ps.toArray) (hps : evp L ps = some vs) (hr : ∀ w, (Instr.build t vs.toArray).run P w = .ok (.agg cs.toArray) w) : Yl P N L o (.agg cs.toArray) H :=
  fun a _ w hf _ => by
    have h1 : (ps.toArray.map fun (p : Nat × Operand) => (p.1, a.eval p.2)) = vs.toArray := by simp [hf.evp ps vs hps]
    have h2 := hr w
    rw [← h1] at h2
    simp only [execOp, ho, Sem.run_bind]
    rw [h2]
    rfl

def evs (L : List (Nat × Value)) : List Operand → Option (List Value)
  | [] => some []
  | x :: r => match ev L x, evs L r with | some v, some vs => some (v :: vs) | _, _ => none
theorem Fit.evs {a : Act} (hf : Fit N L a) : ∀ (xs : List Operand) (vs : List Value), evs L xs = some vs → xs.map a.eval = vs
  | [], vs, h => by simp only [Go.Proofs.Yteecjaiklpkhaaa.evs, Option.some.injEq] at h; subst h; rfl
  | x :: r, vs, h => by
    simp only [Go.Proofs.Yteecjaiklpkhaaa.evs] at h
    split at h
    · rename_i v us hv hus
      simp only [Option.some.injEq] at h
      subst h
      simp only [List.map_cons, hf.ev hv, hf.evs r us hus]
    · cases h

theorem en_call {f : FuncId} {xs : List Operand} {vs : List Value} {ts : Array TypeId} (ho : o.op = .call { callee := .value (.func f), args := xs.toArray, argTypes := ts }) (hxs : evs L xs = some vs) (hok : okCall P f = true) : En P N L o f vs :=
  fun a w hf => by
    have h1 : xs.map a.eval = vs := hf.evs xs vs hxs
    unfold okCall at hok
    cases hq : P.funcs[f]? with
    | none => rw [hq] at hok; cases hok
    | some fn =>
      rw [hq] at hok
      simp only [Bool.and_eq_true, Bool.not_eq_true', Option.isSome_iff_exists] at hok
      obtain ⟨h2, c, h3⟩ := hok
      have h2' : ¬ fn.name = "runtime.NumGoroutine" := by simpa using h2
      simp [execOp, ho, resolve, Act.eval, Deferred.ofValue, invoke, callFunc, hq, h2', h3, h1]
end yl
end Go.Proofs.Yteecjaiklpkhaaa

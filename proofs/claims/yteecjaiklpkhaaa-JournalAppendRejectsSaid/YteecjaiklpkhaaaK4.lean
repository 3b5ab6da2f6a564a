/-
  Operations that turn the heap: new variables, slices that grow, stores; what was there before the call.
-/
import Derived.Test.YteecjaiklpkhaaaK3
namespace Go.Proofs.Yteecjaiklpkhaaa
open Go

/-! ### Slices of slices -/

section cut
variable {P : Program} {N : Nat} {L : List (Nat × Value)} {o : Oper} {H : List Asr} {α : Type} [Enc α] {A : Option Addr} {xs : List α} {c j : Nat} {b w : World}

theorem Holds.slCap {e : TypeId} (hw : Holds b H w) (n : Nat) (hn : H[n]? = some (Sl A c e xs)) : xs.length ≤ c := by
  obtain ⟨DA, hs, _⟩ := hw.update hn
  rcases hs with ⟨_, _, h3, _⟩ | ⟨g, cur, h1, h2, h3, h4, _⟩
  · subst h3; exact Nat.zero_le _
  · exact h4

theorem flat_take (xs : List α) : ∀ j, flat (xs.take j) = (flat xs).take (j * Enc.size α) := by
  induction xs with
  | nil => intro j; simp [flat]
  | cons x xs ih =>
    intro j
    cases j with
    | zero => simp [flat]
    | succ j =>
      have h : (j + 1) * Enc.size α = (Enc.cells x).length + j * Enc.size α := by rw [Enc.len, Nat.add_mul, Nat.one_mul, Nat.add_comm]
      rw [List.take_succ_cons, flat_cons, flat_cons, ih j, h, List.take_append, List.take_of_length_le (l := Enc.cells x) (by omega), Nat.add_sub_cancel_left]
theorem flat_drop (xs : List α) : ∀ j, flat (xs.drop j) = (flat xs).drop (j * Enc.size α) := by
  induction xs with
  | nil => intro j; simp [flat]
  | cons x xs ih =>
    intro j
    cases j with
    | zero => simp
    | succ j =>
      have h : (j + 1) * Enc.size α = (Enc.cells x).length + j * Enc.size α := by rw [Enc.len, Nat.add_mul, Nat.one_mul, Nat.add_comm]
      rw [List.drop_succ_cons, flat_cons, ih j, h, List.drop_append, List.drop_of_length_le (l := Enc.cells x) (by omega), Nat.add_sub_cancel_left, List.nil_append]

theorem Rd.take (h : Rd H A xs) (j : Nat) : Rd H A (xs.take j) := by
  intro b w hw hx
  obtain ⟨ad, e, hc⟩ := h b w hw (by rintro rfl; simp at hx)
  refine ⟨ad, e, fun i u hu => hc i u ?_⟩
  rw [flat_take, List.getElem?_take] at hu
  split at hu
  · exact hu
  · cases hu

def cutA (A : Option Addr) (c j size : Nat) : Option Addr := if c = j then A else A.map (·.add (j * size))
theorem Rd.drop (h : Rd H A xs) (j : Nat) (hc : xs.length ≤ c) : Rd H (cutA A c j (Enc.size α)) (xs.drop j) := by
  intro b w hw hx
  have hlt : j < xs.length := by
    rcases Nat.lt_or_ge j xs.length with h1 | h1
    · exact h1
    · exact absurd (List.drop_eq_nil_of_le h1) hx
  obtain ⟨ad, e, hcell⟩ := h b w hw (by rintro rfl; simp at hx)
  refine ⟨ad.add (j * Enc.size α), by unfold cutA; rw [if_neg (by omega), e]; rfl, fun i u hu => ?_⟩
  rw [flat_drop, List.getElem?_drop] at hu
  rw [add_add]
  exact hcell _ u hu

theorem yl_sliceH {t e : TypeId} {x h : Operand} {k : IntKind} {i : Int} (ho : o.op = .slice t x none (some h) none) (hx : ev L x = some (.slice A xs.length c)) (hh : ev L h = some (.int k i)) (hi : i = (j : Int)) (hj : j ≤ xs.length) (hc : xs.length ≤ c)
    (ht : P.underlying t = some (.slice e)) (hs : P.cellsOf e = Enc.size α) (hz : Nat.beq (Enc.size α) 0 = false) : Yl P N L o (.slice A (xs.take j).length c) H := by
  intro a b w hf hw
  subst hi
  have hz' : Enc.size α ≠ 0 := Nat.ne_of_beq_eq_false hz
  cases hq : P.info? e with
  | none => simp [Program.cellsOf, hq] at hs; omega
  | some inf =>
    have hjc : j ≤ c := by omega
    have hmin : (xs.take j).length = j := by rw [List.length_take]; omega
    rw [hmin]
    simp [execOp, ho, hf.ev hx, hf.ev hh, Instr.sliceAt, run_underlying ht, Instr.slice, Instr.sliceBounds, Instr.sliceBound, asIntOf, hjc, sizeOf, typeInfo, hq]
    intro h0
    cases A <;> simp [Addr.add_zero']

theorem yl_sliceL {t e : TypeId} {x h : Operand} {k : IntKind} {i : Int} (ho : o.op = .slice t x (some h) none none) (hx : ev L x = some (.slice A xs.length c)) (hh : ev L h = some (.int k i)) (hi : i = (j : Int)) (hj : j ≤ xs.length)
    (ht : P.underlying t = some (.slice e)) (hs : P.cellsOf e = Enc.size α) (hz : Nat.beq (Enc.size α) 0 = false) : Yl P N L o (.slice (cutA A c j (Enc.size α)) (xs.drop j).length (c - j)) H := by
  intro a b w hf hw
  subst hi
  have hz' : Enc.size α ≠ 0 := Nat.ne_of_beq_eq_false hz
  cases hq : P.info? e with
  | none => simp [Program.cellsOf, hq] at hs; omega
  | some inf =>
    have hsz : inf.size = Enc.size α := by simpa [Program.cellsOf, hq] using hs
    have hd : (xs.drop j).length = xs.length - j := List.length_drop
    rw [hd]
    simp [execOp, ho, hf.ev hx, hf.ev hh, Instr.sliceAt, run_underlying ht, Instr.slice, Instr.sliceBounds, Instr.sliceBound, asIntOf, hj, sizeOf, typeInfo, hq, hsz, cutA]

/-- Both bounds. -/
theorem yl_sliceLH {t e : TypeId} {x lo h : Operand} {k k2 : IntKind} {i i2 : Int} {j2 : Nat} (ho : o.op = .slice t x (some lo) (some h) none) (hx : ev L x = some (.slice A xs.length c)) (hl : ev L lo = some (.int k i)) (hh : ev L h = some (.int k2 i2)) (hi : i = (j : Int)) (hi2 : i2 = (j2 : Int))
    (hj : j ≤ j2) (hj2 : j2 ≤ xs.length) (hc : xs.length ≤ c)
    (ht : P.underlying t = some (.slice e)) (hs : P.cellsOf e = Enc.size α) (hz : Nat.beq (Enc.size α) 0 = false) : Yl P N L o (.slice (cutA A c j (Enc.size α)) ((xs.take j2).drop j).length (c - j)) H := by
  intro a b w hf hw
  subst hi; subst hi2
  have hz' : Enc.size α ≠ 0 := Nat.ne_of_beq_eq_false hz
  cases hq : P.info? e with
  | none => simp [Program.cellsOf, hq] at hs; omega
  | some inf =>
    have hsz : inf.size = Enc.size α := by simpa [Program.cellsOf, hq] using hs
    have hjc : j2 ≤ c := by omega
    have hd : ((xs.take j2).drop j).length = j2 - j := by rw [List.length_drop, List.length_take]; omega
    rw [hd]
    simp [execOp, ho, hf.ev hx, hf.ev hh, hf.ev hl, Instr.sliceAt, run_underlying ht, Instr.slice, Instr.sliceBounds, Instr.sliceBound, asIntOf, hj, hjc, sizeOf, typeInfo, hq, hsz, cutA]

theorem yl_indexS {t e : TypeId} {x ix : Operand} {n j : Nat} {k : IntKind} {i : Int} (ho : o.op = .indexAddr t x ix) (hx : ev L x = some (.slice A n c)) (hi : ev L ix = some (.int k i))
    (hA : ∃ ad, A = some ad) (hij : i = (j : Int)) (hn : j < n) (ht : P.underlying t = some (.slice e)) (hs : P.cellsOf e = Enc.size α) (hz : Nat.beq (Enc.size α) 0 = false) : Yl P N L o (.pointer (some (sa A (j * Enc.size α)))) H := by
  intro a b w hf hw
  obtain ⟨ad, rfl⟩ := hA
  subst hij
  have hz' : Enc.size α ≠ 0 := Nat.ne_of_beq_eq_false hz
  cases hq : P.info? e with
  | none => simp [Program.cellsOf, hq] at hs; omega
  | some jj =>
    have hsz : jj.size = Enc.size α := by simpa [Program.cellsOf, hq] using hs
    have hc : (0 : Int) ≤ (j : Int) ∧ (j : Int) < (n : Int) := by omega
    simp [execOp, ho, hf.ev hx, hf.ev hi, Instr.indexAt, asIntOf, run_underlying ht, hn, sizeOf, typeInfo, hq, hsz, sa]

theorem yl_neg {t : TypeId} {x : Operand} {k : IntKind} {n r : Int} (ho : o.op = .unOp .neg t x) (hx : ev L x = some (.int k n)) (hr : k.wrap (0 - n) = r) : Yl P N L o (.int k r) H := fun a _ w hf _ => by
  subst hr
  simp [execOp, ho, hf.ev hx, Op.unary, Op.intArith]
end cut

/-! ### == on structs of one-cell fields -/

section eqf
variable {P : Program} {xs ys : Array Value} {fs : List Field} {f : Field} {w : World} {d : Nat}
theorem run_part {t : TypeId} {k : TypeDesc} {cs : Array Value} {off : Nat} {v : Value} (ht : P.underlying t = some k) (hk : (match k with | .struct _ | .array _ _ => false | _ => true) = true) (hv : cs[off]? = some v) : (part t cs off).run P w = .ok v w := by
  have hagg : (isAgg t).run P w = .ok false w := by
    unfold isAgg
    rw [Sem.run_bind, run_underlying ht w]
    cases k <;> simp_all
  simp [part, hagg, hv]
theorem eqf_nil : (Op.eqFields d xs ys []).run P w = .ok true w := by simp [Op.eqFields]
theorem eqf_int {k : IntKind} {a b : Int} (hn : (f.name == "_") = false) (ht : P.underlying f.type = some (.int k)) (hx : xs[f.offset]? = some (.int k a)) (hy : ys[f.offset]? = some (.int k b)) :
    (Op.eqFields (d + 1) xs ys (f :: fs)).run P w = if a = b then (Op.eqFields (d + 1) xs ys fs).run P w else .ok false w := by
  have hn' : f.name ≠ "_" := by simpa using hn
  simp only [Op.eqFields, hn', ne_eq, not_false_eq_true, if_true, Sem.run_bind, run_part ht rfl hx, run_part ht rfl hy, Result.andThen_ok, run_equalIn_int w d f.type k k a b ht]
  by_cases h : a = b
  · subst h; simp
  · simp [h]
theorem eqf_bool {a b : Bool} (hn : (f.name == "_") = false) (ht : P.underlying f.type = some .bool) (hx : xs[f.offset]? = some (.bool a)) (hy : ys[f.offset]? = some (.bool b)) :
    (Op.eqFields (d + 1) xs ys (f :: fs)).run P w = if a = b then (Op.eqFields (d + 1) xs ys fs).run P w else .ok false w := by
  have hn' : f.name ≠ "_" := by simpa using hn
  simp only [Op.eqFields, hn', ne_eq, not_false_eq_true, if_true, Sem.run_bind, run_part ht rfl hx, run_part ht rfl hy, Result.andThen_ok, run_equalIn_bool' w d f.type a b ht]
  by_cases h : a = b
  · subst h; simp
  · simp [h]
end eqf

section ef
variable {P : Program} {N : Nat} {L : List (Nat × Value)} {o : Oper} {H : List Asr} {b : World}

theorem alloc_old (w : World) (x : Obj) (g : Nat) (h : g < w.heap.size) : (w.alloc x).heap[g]? = w.heap[g]? := by rw [show (w.alloc x).heap = w.heap.push x from rfl, Array.getElem?_push, if_neg (by omega)]

theorem Holds.newBk {w : World} (hw : Holds b H w) (t : TypeId) (cs : List Value) : Holds b (Bk w.heap.size t cs :: H) (w.alloc (.cells cs.toArray t)) :=
  hw.push (Bk w.heap.size t cs) [w.heap.size] rfl rfl rfl ⟨rfl, heap_alloc_new w _⟩ (fun g hg => alloc_old w _ g hg) (by simp) (fun g hg => by simp at hg; omega)

theorem Holds.nilSl {α : Type} [Enc α] {w : World} (hw : Holds b H w) (e : TypeId) : Holds b (Sl none 0 e ([] : List α) :: H) w :=
  hw.push _ [] rfl rfl rfl (.inl ⟨rfl, rfl, rfl, rfl⟩) (fun _ _ => rfl) (by simp) (by simp)

theorem ef_alloc {t : TypeId} {z : Value} {cs : List Value} (ho : o.op = .alloc t) (hz : (P.info? t).bind (·.zero) = some z) (hcs : z.cells = cs.toArray) :
    Ef P N L o b H (fun v H' => ∃ g, v = .pointer (some ⟨g, 0, none⟩) ∧ H' = Bk g t cs :: H) := by
  intro a w hf hw
  cases hq : P.info? t with
  | none => rw [hq] at hz; cases hz
  | some i =>
    have hz' : i.zero = some z := by rw [hq] at hz; simpa using hz
    refine ⟨_, w.alloc (.cells cs.toArray t), _, ?_, ⟨w.heap.size, rfl, rfl⟩, hw.newBk t cs⟩
    simp [execOp, ho, Instr.alloc, zeroValue, typeInfo, hq, hz', newVar, newRow, hcs]

theorem ef_box {t : TypeId} {x : Operand} {v : Value} {cs : List Value} (ho : o.op = .box t x) (hx : ev L x = some v) (hcs : v.cells = cs.toArray) :
    Ef P N L o b H (fun v H' => ∃ g, v = .pointer (some ⟨g, 0, none⟩) ∧ H' = Bk g t cs :: H) := by
  intro a w hf hw
  refine ⟨_, w.alloc (.cells cs.toArray t), _, ?_, ⟨w.heap.size, rfl, rfl⟩, hw.newBk t cs⟩
  simp [execOp, ho, Instr.box, hf.ev hx, newVar, newRow, hcs]

theorem ef_buildSlice {α : Type} [Enc α] {t e : TypeId} {n : Nat} {ps : List (Nat × Operand)} {vs : List (Nat × Value)} (xs : List α) (ho : o.op = .buildSlice t n ps.toArray) (hps : evp L ps = some vs)
    (hr : ∀ w, (Instr.buildSlice t n vs.toArray).run P w = .ok (.slice (some ⟨w.heap.size, 0, none⟩) n n) (w.alloc (.cells (flat xs).toArray e))) (hn : xs.length = n) (hm : Nat.ble n 1000000 = true) :
    Ef P N L o b H (fun v H' => ∃ A, v = .slice A xs.length n ∧ H' = Sl A n e xs :: H) := by
  intro a w hf hw
  subst hn
  have h1 : (ps.toArray.map fun (p : Nat × Operand) => (p.1, a.eval p.2)) = vs.toArray := by simp [hf.evp ps vs hps]
  have h2 := hr w
  rw [← h1] at h2
  refine ⟨_, w.alloc (.cells (flat xs).toArray e), _, ?_, ⟨some ⟨w.heap.size, 0, none⟩, rfl, rfl⟩, ?_⟩
  · simp only [execOp, ho, Sem.run_bind]
    rw [h2]
    rfl
  · refine hw.push _ [w.heap.size] rfl rfl rfl (.inr ⟨w.heap.size, (flat xs).toArray, rfl, rfl, heap_alloc_new w _, Nat.le_refl _, ?_, by simp [flat_length], ?_⟩) (fun g hg => alloc_old w _ g hg) (by simp) (fun g hg => by simp at hg; omega)
    · have := Nat.le_of_ble_eq_true hm; simp only [maxLen]; omega
    · rw [← flat_length]; simp

/-- append(s, x...), s at place n of the heap. -/
theorem ef_append {α : Type} [Enc α] {t e : TypeId} {s x : Operand} {A A2 : Option Addr} {c c2 : Nat} {xs ys : List α} {z : Value} {bytes : Nat} (n : Nat) (ho : o.op = .call { callee := .builtin .append, args := #[s, x], argTypes := #[t, t] })
    (hs : ev L s = some (.slice A xs.length c)) (hn : H[n]? = some (Sl A c e xs)) (hx : ev L x = some (.slice A2 ys.length c2)) (hr : Rd H A2 ys) (ht : P.underlying t = some (.slice e))
    (hi : (P.info? e).map (fun i => (i.zero, i.size, i.bytes)) = some (some z, Enc.size α, bytes)) (hz : z.cells.size = Enc.size α) (hsz : Nat.beq (Enc.size α) 0 = false)
    (hlen : xs.length + ys.length ≤ maxLen) (hbytes : (xs.length + ys.length) * bytes ≤ 140737488355328) :
    Ef P N L o b H (fun v H' => ∃ A' c', v = .slice A' (xs ++ ys).length c' ∧ H' = H.set n (Sl A' c' e (xs ++ ys))) := by
  intro a w hf hw
  have hsz' : 0 < Enc.size α := Nat.pos_of_ne_zero (Nat.ne_of_beq_eq_false hsz)
  obtain ⟨DA, hon, hup⟩ := hw.update hn
  obtain ⟨hown, hDA⟩ := Sl.owns hon
  cases hq : P.info? e with
  | none => rw [hq] at hi; cases hi
  | some i =>
    rw [hq] at hi
    simp only [Option.map_some, Option.some.injEq, Prod.mk.injEq] at hi
    obtain ⟨hi0, hi1, hi2⟩ := hi
    have hrun : ∃ v' w', (Builtin.append_ #[t, t] o.type #[.slice A xs.length c, .slice A2 ys.length c2]).run P w = .ok v' w' ∧ w'.ownsRow 0 e (Enc.size α) v' (xs.length + ys.length) (flat xs ++ flat ys) ∧
        w.grownBy w' (Value.slice A xs.length c).ownBlock ∧ (v'.ownBlock = (Value.slice A xs.length c).ownBlock ∨ v'.ownBlock = some w.heap.size) := by
      have hsome : (∃ ad, A2 = some ad ∧ ∀ j u, (flat ys)[j]? = some u → w.cell? (ad.add j) = some u) ∨ (A2 = none ∧ ys = []) := by
        cases A2 with
        | some ad =>
          refine .inl ⟨ad, rfl, ?_⟩
          by_cases hy : ys = []
          · subst hy; intro j u hu; simp [flat] at hu
          · obtain ⟨ad', e', hc⟩ := hr b w hw hy
            simp only [Option.some.injEq] at e'
            subst e'; exact hc
        | none =>
          refine .inr ⟨rfl, ?_⟩
          rcases Classical.em (ys = []) with hy | hy
          · exact hy
          · obtain ⟨ad', e', _⟩ := hr b w hw hy
            cases e'
      rcases hsome with ⟨ad, rfl, hc⟩ | ⟨rfl, rfl⟩
      · obtain ⟨v', w', h1, h2, h3, _, h5⟩ := run_append_own_at (P := P) w 0 t o.type e i z (Enc.size α) bytes ht hq hi0 hi1 hi2 hz hsz' _ xs.length (flat xs) hown ad ys.length c2 (flat ys) (flat_length ys) hc (flat_one ys) hlen hbytes (Nat.zero_le _)
        exact ⟨v', w', h1, h2, h3, h5⟩
      · refine ⟨.slice A xs.length c, w, ?_, by simpa [flat] using hown, ⟨rfl, rfl, rfl, Nat.le_refl _, fun _ _ _ => rfl⟩, .inl rfl⟩
        rcases hown.2 with ⟨h1, h2⟩ | ⟨g, cap, cur, h1, _, _, hnc, _⟩
        · injection h1 with h1 h3 h4
          subst h1; subst h4
          simp [Builtin.append_, run_underlying ht, sizeOf, typeInfo, hq, Builtin.lenOf, Builtin.firstCells, h2]
        · injection h1 with h1 h3 h4
          subst h1; subst h4
          simp [Builtin.append_, run_underlying ht, sizeOf, typeInfo, hq, Builtin.lenOf, Builtin.firstCells, hnc, storeCells]
    obtain ⟨v', w', h1, h2, h3, h4⟩ := hrun
    have hl : (xs ++ ys).length = xs.length + ys.length := by simp
    rw [← flat_append, ← hl] at h2
    obtain ⟨A', c', hv, hon'⟩ := Sl.of_owns h2
    refine ⟨v', w', _, ?_, ⟨A', c', hv, rfl⟩, hup w' _ _ h3.os h3.tape h3.output hon' (fun g hg hne => h3.block g hg (fun e' => hne (by rw [hDA, ← e']; simp))) ?_ ?_⟩
    · simp [execOp, ho, resolve, invoke, builtin, hf.ev hs, hf.ev hx, h1]
    · cases hvb : v'.ownBlock <;> simp
    · intro g hg
      rcases h4 with h5 | h5
      · left; rw [hDA, ← h5]; exact hg
      · right; rw [h5] at hg; simp at hg; omega

/-- append(nil, x...). -/
theorem ef_append0 {α : Type} [Enc α] {t e : TypeId} {s x : Operand} {A2 : Option Addr} {c2 : Nat} {ys : List α} {z : Value} {bytes : Nat} (ho : o.op = .call { callee := .builtin .append, args := #[s, x], argTypes := #[t, t] })
    (hs : ev L s = some (.slice none 0 0)) (hx : ev L x = some (.slice A2 ys.length c2)) (hr : Rd H A2 ys) (ht : P.underlying t = some (.slice e))
    (hi : (P.info? e).map (fun i => (i.zero, i.size, i.bytes)) = some (some z, Enc.size α, bytes)) (hz : z.cells.size = Enc.size α) (hsz : Nat.beq (Enc.size α) 0 = false)
    (hlen : ys.length ≤ maxLen) (hbytes : ys.length * bytes ≤ 140737488355328) :
    Ef P N L o b H (fun v H' => ∃ A' c', v = .slice A' ys.length c' ∧ H' = Sl A' c' e ys :: H) := by
  intro a w hf hw
  have := ef_append (α := α) (P := P) (N := N) (L := L) (o := o) (H := Sl none 0 e ([] : List α) :: H) (b := b) (xs := []) 0 ho hs rfl hx (hr.cons _) ht hi hz hsz (by simpa using hlen) (by simpa using hbytes) a w hf (hw.nilSl e)
  simpa using this

/-! ### Stores -/

theorem es_at0 {A A' : Asr} (h : Es P N L o b (A :: H) ((A :: H).set 0 A')) : Es P N L o b (A :: H) (A' :: H) := h
theorem es_at1 {A A' B : Asr} (h : Es P N L o b (B :: A :: H) ((B :: A :: H).set 1 A')) : Es P N L o b (B :: A :: H) (B :: A' :: H) := h
theorem es_at2 {A A' B C : Asr} (h : Es P N L o b (C :: B :: A :: H) ((C :: B :: A :: H).set 2 A')) : Es P N L o b (C :: B :: A :: H) (C :: B :: A' :: H) := h
theorem es_at3 {A A' B C D : Asr} (h : Es P N L o b (D :: C :: B :: A :: H) ((D :: C :: B :: A :: H).set 3 A')) : Es P N L o b (D :: C :: B :: A :: H) (D :: C :: B :: A' :: H) := h
theorem es_at4 {A A' B C D E : Asr} (h : Es P N L o b (E :: D :: C :: B :: A :: H) ((E :: D :: C :: B :: A :: H).set 4 A')) : Es P N L o b (E :: D :: C :: B :: A :: H) (E :: D :: C :: B :: A' :: H) := h

theorem setCell_heap (w : World) (g i : Nat) (v : Value) (cs : Array Value) (t : TypeId) (fr : Nat × Nat) (h : w.heap[g]? = some (.cells cs t fr)) :
    (w.setCell ⟨g, i, none⟩ v).heap[g]? = some (.cells (cs.setIfInBounds i v) t fr) := by
  simp [World.setCell, Array.getElem?_modify, h]
theorem setCell_far (w : World) (p : Addr) (v : Value) (g : Nat) (h : g ≠ p.block) : (w.setCell p v).heap[g]? = w.heap[g]? := by
  simp only [World.setCell, Array.getElem?_modify]
  rw [if_neg (by omega)]

theorem run_store1 {P : Program} {w : World} {t : TypeId} {p : Addr} {u v : Value} (hs : P.cellsOf t = 1) (hv : v.oneCell' = true) (hc : w.cell? p = some u) (hf : w.frozen? p = false) : (storeVar t p v).run P w = .ok () (w.setCell p v) := by
  have h1 : v.cells = #[v] := by cases v <;> simp_all [Value.oneCell', Value.cells]
  cases hq : P.info? t with
  | none => simp [Program.cellsOf, hq] at hs
  | some i =>
    have hsz : i.size = 1 := by simpa [Program.cellsOf, hq] using hs
    have hst : (store p v).run P w = .ok () (w.setCell p v) := by
      rw [run_store P w p v _ hv]
      simp [stored, hc, hf]
    simp [storeVar, sizeOf, typeInfo, hq, hsz, h1, storeCells, Addr.add_zero', hst]

theorem es_store {t T : TypeId} {x y : Operand} {g i : Nat} {v : Value} {cs : List Value} (n : Nat) (ho : o.op = .store t x y) (hx : ev L x = some (.pointer (some ⟨g, i, none⟩))) (hy : ev L y = some v) (hv : v.oneCell' = true)
    (hs : P.cellsOf t = 1) (hn : H[n]? = some (Bk g T cs)) (hi : Nat.blt i cs.length = true) : Es P N L o b H (H.set n (Bk g T (cs.set i v))) := by
  intro a w hf hw
  have hi' : i < cs.length := by simpa [Nat.blt_eq] using hi
  obtain ⟨DA, ⟨hD, hg⟩, hup⟩ := hw.update hn
  have hg' : w.heap[g]? = some (.cells cs.toArray T (0, 0)) := hg
  have hc : w.cell? ⟨g, i, none⟩ = some cs[i] := by rw [cell_of_row w g i _ T (0, 0) hg']; simp [hi']
  have hfz : w.frozen? ⟨g, i, none⟩ = false := by simp [World.frozen?, hg']
  refine ⟨w.setCell ⟨g, i, none⟩ v, ?_, hup _ _ [g] rfl rfl rfl ⟨rfl, ?_⟩ (fun g' _ hne => setCell_far w _ v g' (fun e => hne (by rw [hD]; simp [e]))) (by simp) (fun x hx => .inl (by rw [hD]; exact hx))⟩
  · simp [execOp, ho, hf.ev hx, hf.ev hy, Instr.storeAt, Instr.sureAddr, run_store1 hs hv hc hfz]
  · have := setCell_heap w g i v _ T (0, 0) hg'
    simpa using this

theorem es_storeN {t T : TypeId} {x y : Operand} {g : Nat} {cs vs : List Value} (n : Nat) (ho : o.op = .store t x y) (hx : ev L x = some (.pointer (some ⟨g, 0, none⟩))) (hy : ev L y = some (.agg vs.toArray)) (hv : (vs.all fun u => u.oneCell') = true)
    (hs : (P.info? t).map (·.size) = some vs.length) (hn : H[n]? = some (Bk g T cs)) (hl : cs.length = vs.length) : Es P N L o b H (H.set n (Bk g T vs)) := by
  intro a w hf hw
  obtain ⟨DA, ⟨hD, hg⟩, hup⟩ := hw.update hn
  have hg' : w.heap[g]? = some (.cells cs.toArray T (0, 0)) := hg
  have hr := run_storeVar_row (P := P) w g T t cs.toArray vs.toArray hg' (by simpa using hs) (by simpa using hl) (by simpa using hv)
  refine ⟨w.setRow g vs.toArray, ?_, hup _ _ [g] rfl rfl rfl ⟨rfl, ?_⟩ (fun g' _ hne => setRow_other w g g' _ (fun e => hne (by rw [hD]; simp [e]))) (by simp) (fun x hx => .inl (by rw [hD]; exact hx))⟩
  · simp [execOp, ho, hf.ev hx, hf.ev hy, Instr.storeAt, Instr.sureAddr, hr]
  · exact setRow_heap w g cs.toArray vs.toArray T (0, 0) hg'

/-- A store into a field of an element of a slice of the call's own. -/
theorem flat_set {α : Type} [Enc α] : ∀ (xs : List α) (j i : Nat) (x x' : α) (v : Value), xs[j]? = some x → Enc.cells x' = (Enc.cells x).set i v → i < Enc.size α → flat (xs.set j x') = (flat xs).set (j * Enc.size α + i) v
  | [], j, i, x, x', v, h, _, _ => by simp at h
  | y :: ys, 0, i, x, x', v, h, hc, hi => by
    simp only [List.getElem?_cons_zero, Option.some.injEq] at h
    subst h
    simp only [List.set_cons_zero, flat_cons, Nat.zero_mul, Nat.zero_add]
    rw [List.set_append_left _ _ (by rw [Enc.len]; exact hi), hc]
  | y :: ys, j + 1, i, x, x', v, h, hc, hi => by
    simp only [List.getElem?_cons_succ] at h
    simp only [List.set_cons_succ, flat_cons]
    rw [List.set_append_right _ _ (by rw [Enc.len, Nat.add_mul]; omega), Enc.len, show (j + 1) * Enc.size α + i - Enc.size α = j * Enc.size α + i by rw [Nat.add_mul]; omega,
      flat_set ys j i x x' v h hc hi]

theorem es_storeSl {α : Type} [Enc α] {t e : TypeId} {x y : Operand} {A : Option Addr} {c j i : Nat} {v : Value} {xs : List α} {z : α} (n : Nat) (z' : α) (ho : o.op = .store t x y) (hx : ev L x = some (.pointer (some ((sa A (j * Enc.size α)).add i)))) (hy : ev L y = some v) (hv : v.oneCell' = true)
    (hs : P.cellsOf t = 1) (hn : H[n]? = some (Sl A c e xs)) (hj : xs[j]? = some z) (hi : Nat.blt i (Enc.size α) = true) (hz : Enc.cells z' = (Enc.cells z).set i v) : Es P N L o b H (H.set n (Sl A c e (xs.set j z'))) := by
  intro a w hf hw
  have hi' : i < Enc.size α := by simpa [Nat.blt_eq] using hi
  obtain ⟨DA, hon, hup⟩ := hw.update hn
  rcases hon with ⟨_, _, h3, _⟩ | ⟨g, cur, h1, h2, h3, h4, h5, h6, h7⟩
  · subst h3; simp at hj
  · have hg' : w.heap[g]? = some (.cells cur e (0, 0)) := h3
    subst h1
    have hjl : j < xs.length := (List.getElem?_eq_some_iff.1 hj).1
    have hk : j * Enc.size α + i < xs.length * Enc.size α := by
      have := Nat.mul_le_mul_right (Enc.size α) (show j + 1 ≤ xs.length by omega)
      rw [Nat.add_mul] at this
      omega
    have hkc : j * Enc.size α + i < cur.size := by
      rw [h6]
      exact Nat.lt_of_lt_of_le hk (Nat.mul_le_mul_right _ h4)
    have hadr : (sa (some ⟨g, 0, none⟩) (j * Enc.size α)).add i = ⟨g, j * Enc.size α + i, none⟩ := by
      unfold sa
      simp only [Option.getD_some]
      rw [add_add, add_mk, Nat.zero_add]
    rw [hadr] at hx
    have hc : w.cell? ⟨g, j * Enc.size α + i, none⟩ = some cur[j * Enc.size α + i] := by rw [cell_of_row w g _ cur e (0, 0) hg']; simp [hkc]
    have hfz : w.frozen? ⟨g, j * Enc.size α + i, none⟩ = false := by simp [World.frozen?, hg']
    refine ⟨w.setCell ⟨g, j * Enc.size α + i, none⟩ v, ?_, hup _ _ [g] rfl rfl rfl (.inr ⟨g, cur.setIfInBounds (j * Enc.size α + i) v, rfl, rfl, setCell_heap w g _ v cur e (0, 0) hg', by simpa using h4, h5, by simpa using h6, ?_⟩)
      (fun g' _ hne => setCell_far w _ v g' (fun e => hne (by rw [h2]; simp [e]))) (by simp) (fun x hx => .inl (by rw [h2]; exact hx))⟩
    · simp [execOp, ho, hf.ev hx, hf.ev hy, Instr.storeAt, Instr.sureAddr, run_store1 hs hv hc hfz]
    · rw [flat_set xs j i z z' v hj hz hi', ← h7]
      simp only [Array.toList_setIfInBounds, List.length_set]
      rw [List.take_set]
end ef

/-! ### What was there before the call -/

def Old (W : World) : Asr where
  on D h := D = List.range W.heap.size ∧ ∀ g, g < W.heap.size → h g = W.heap[g]?
  loc := fun D h h' ⟨e, hg⟩ he => ⟨e, fun g hlt => by rw [he g (by rw [e]; exact List.mem_range.2 hlt)]; exact hg g hlt⟩
  dom := fun D h ⟨e, hg⟩ g hx => by
    rw [e] at hx
    have hlt := List.mem_range.1 hx
    rw [hg g hlt, Array.getElem?_eq_getElem hlt]; rfl

theorem Holds.old (W : World) : Holds W [Old W] W :=
  ⟨rfl, rfl, rfl, List.range W.heap.size, List.nodup_range, List.range W.heap.size, [], by simp, ⟨rfl, fun _ _ => rfl⟩, rfl⟩

theorem CellAt.old {H : List Asr} {W : World} {p : Addr} {v : Value} (n : Nat) (hn : H[n]? = some (Old W)) (hp : W.cell? p = some v) : CellAt H p v := by
  intro b w hw
  obtain ⟨DA, ⟨_, hg⟩, _⟩ := hw.update hn
  have hlt := World.block_lt_of_cell? W p hp
  rw [← hp]
  exact World.cell?_of_block (hg p.block hlt)

theorem Rd.old {α : Type} [Enc α] {H : List Asr} {W : World} {A : Option Addr} {xs : List α} (n : Nat) (hn : H[n]? = some (Old W)) (h : xs ≠ [] → ∃ ad, A = some ad ∧ ∀ j u, (flat xs)[j]? = some u → W.cell? (ad.add j) = some u) : Rd H A xs := by
  intro b w hw hx
  obtain ⟨ad, e, hc⟩ := h hx
  exact ⟨ad, e, fun j u hu => CellAt.old n hn (hc j u hu) b w hw⟩

theorem Holds.below {W w : World} {H : List Asr} (n : Nat) (hn : H[n]? = some (Old W)) (hw : Holds W H w) : Go.RowKit.Below W.heap.size W w := by
  obtain ⟨DA, ⟨_, hg⟩, _⟩ := hw.update hn
  refine ⟨hw.os, hw.tape, hw.output, ?_, hg⟩
  rcases Nat.eq_zero_or_pos W.heap.size with h0 | h0
  · omega
  · have h1 : w.heap[W.heap.size - 1]? = W.heap[W.heap.size - 1]? := hg (W.heap.size - 1) (by omega)
    have h2 : W.heap[W.heap.size - 1]? = some W.heap[W.heap.size - 1] := Array.getElem?_eq_getElem (by omega)
    have := (Array.getElem?_eq_some_iff.1 (h1.trans h2)).1
    omega
end Go.Proofs.Yteecjaiklpkhaaa

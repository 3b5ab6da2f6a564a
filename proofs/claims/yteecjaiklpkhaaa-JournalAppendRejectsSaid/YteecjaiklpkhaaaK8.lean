/-
  Bytes and strings; slices that are made; an element taken out of a slice in its own memory; a pool of memory that is not written any more.
-/
import Derived.Test.YteecjaiklpkhaaaK6
import Derived.Laws.BytesString
import Derived.Laws.BytesArg
import Derived.Laws.MakeOwn
namespace Go.Proofs.Yteecjaiklpkhaaa
open Go

instance : Enc UInt8 where
  size := 1
  cells x := [.int .u8 (x.toNat : Int)]
  len _ := rfl
  one x u h := by simp at h; subst h; rfl

section bytes
variable {P : Program} {N : Nat} {L : List (Nat × Value)} {o : Oper} {H : List Asr}

theorem flat_bytes (bs : List UInt8) : flat bs = (bs.map fun x => ((x.toNat : Nat) : Int)).map (Value.int .u8) := by
  induction bs with
  | nil => rfl
  | cons x bs ih => rw [flat_cons, ih]; rfl
theorem foldl_bytes (bs : List UInt8) : (bs.map fun x => ((x.toNat : Nat) : Int)).foldl (fun r n => r.push (UInt8.ofNat n.toNat)) ByteArray.empty = ⟨bs.toArray⟩ := by
  rw [foldl_push_bytes, List.map_map]
  have h : ((fun n : Int => UInt8.ofNat n.toNat) ∘ fun x : UInt8 => ((x.toNat : Nat) : Int)) = id := by funext x; simp
  rw [h, List.map_id]
  show ByteArray.mk (#[] ++ bs.toArray) = _
  rw [Array.empty_append]

theorem yl_string {s d e : TypeId} {x : Operand} {A : Option Addr} {c : Nat} {bs : List UInt8} (ho : o.op = .convert s d x) (hx : ev L x = some (.slice A bs.length c)) (hr : Rd H A bs) (hs : P.underlying s = some (.slice e)) (he : P.underlying e = some (.int .u8)) (hd : P.underlying d = some .string) :
    Yl P N L o (.string ⟨bs.toArray⟩) H := by
  intro a b w hf hw
  have key : (convert s d (.slice A bs.length c)).run P w = .ok (.string ⟨bs.toArray⟩) w := by
    rw [run_convert_bytes_string w s d e A bs.length c hs he hd]
    have hsome : (∃ ad, A = some ad ∧ ∀ j u, (flat bs)[j]? = some u → w.cell? (ad.add j) = some u) ∨ (A = none ∧ bs = []) := by
      by_cases hb : bs = []
      · subst hb
        cases A with
        | none => exact .inr ⟨rfl, rfl⟩
        | some ad => exact .inl ⟨ad, rfl, fun j u hu => by simp [flat] at hu⟩
      · exact .inl (hr b w hw hb)
    rcases hsome with ⟨ad, rfl, hc⟩ | ⟨rfl, rfl⟩
    · have hl : (loadCells ad (flat bs).length).run P w = .ok (flat bs).toArray w := run_loadCells_list (P := P) w ad (flat bs) (fun j v hv => hc j v hv)
      rw [show (flat bs).length = bs.length by rw [flat_length]; exact Nat.mul_one _, flat_bytes] at hl
      rw [run_bytesToString w ad bs.length c _ hl, foldl_bytes]
    · rfl
  simp [execOp, ho, hf.ev hx, key]

theorem str_list (a : List UInt8) : (⟨a.toArray⟩ : ByteArray).toList = a := by rw [ByteArray.toList_eq]
theorem yp_eqStr {t t2 : TypeId} {x y : Operand} {m n : List UInt8} (ho : o.op = .binOp .eql t x y t2) (hx : ev L x = some (.string ⟨m.toArray⟩)) (hy : ev L y = some (.string ⟨n.toArray⟩)) : Yp P N L o (m = n) H :=
  ⟨fun h a _ w hf _ => by subst h; simp [execOp, ho, hf.ev hx, hf.ev hy, eqGuard_at_string, binOp_string_eql, str_list],
   fun h a _ w hf _ => by simp [execOp, ho, hf.ev hx, hf.ev hy, eqGuard_at_string, binOp_string_eql, str_list, h]⟩

theorem yl_convId {s d e : TypeId} {x : Operand} {A : Option Addr} {n c : Nat} (ho : o.op = .convert s d x) (hx : ev L x = some (.slice A n c)) (hr : ∀ w, (convert s d (.slice A n c)).run P w = .ok (.slice A n c) w) : Yl P N L o (.slice A n c) H :=
  fun a _ w hf _ => by simp [execOp, ho, hf.ev hx, hr]
end bytes

section cuts
variable {P : Program} {N : Nat} {L : List (Nat × Value)} {o : Oper} {H : List Asr} {b : World} {α : Type} [Enc α]

/-- Bounds low and high, the high one within the capacity. -/
theorem yl_sliceRaw {t e : TypeId} {x lo h : Operand} {k k2 : IntKind} {i i2 : Int} {A : Option Addr} {n c j j2 : Nat} (sz : Nat) (ho : o.op = .slice t x (some lo) (some h) none) (hx : ev L x = some (.slice A n c)) (hl : ev L lo = some (.int k i)) (hh : ev L h = some (.int k2 i2)) (hi : i = (j : Int)) (hi2 : i2 = (j2 : Int))
    (hj : j ≤ j2) (hc : j2 ≤ c) (ht : P.underlying t = some (.slice e)) (hs : P.cellsOf e = sz) (hz : Nat.beq sz 0 = false) : Yl P N L o (.slice (cutA A c j sz) (j2 - j) (c - j)) H := by
  intro a b w hf hw
  subst hi; subst hi2
  have hz' : sz ≠ 0 := Nat.ne_of_beq_eq_false hz
  cases hq : P.info? e with
  | none => simp [Program.cellsOf, hq] at hs; omega
  | some inf =>
    have hsz : inf.size = sz := by simpa [Program.cellsOf, hq] using hs
    simp [execOp, ho, hf.ev hx, hf.ev hh, hf.ev hl, Instr.sliceAt, run_underlying ht, Instr.slice, Instr.sliceBounds, Instr.sliceBound, asIntOf, hj, hc, sizeOf, typeInfo, hq, hsz, cutA]
/-- Low, high and max. -/
theorem yl_slice3 {t e : TypeId} {x lo h mx : Operand} {k k2 k3 : IntKind} {i i2 i3 : Int} {A : Option Addr} {n c j j2 j3 : Nat} (sz : Nat) (ho : o.op = .slice t x (some lo) (some h) (some mx)) (hx : ev L x = some (.slice A n c)) (hl : ev L lo = some (.int k i)) (hh : ev L h = some (.int k2 i2)) (hm : ev L mx = some (.int k3 i3)) (hi : i = (j : Int)) (hi2 : i2 = (j2 : Int)) (hi3 : i3 = (j3 : Int))
    (hj : j ≤ j2) (hj2 : j2 ≤ j3) (hc : j3 ≤ c) (ht : P.underlying t = some (.slice e)) (hs : P.cellsOf e = sz) (hz : Nat.beq sz 0 = false) : Yl P N L o (.slice (cutA A j3 j sz) (j2 - j) (j3 - j)) H := by
  intro a b w hf hw
  subst hi; subst hi2; subst hi3
  have hz' : sz ≠ 0 := Nat.ne_of_beq_eq_false hz
  cases hq : P.info? e with
  | none => simp [Program.cellsOf, hq] at hs; omega
  | some inf =>
    have hsz : inf.size = sz := by simpa [Program.cellsOf, hq] using hs
    simp [execOp, ho, hf.ev hx, hf.ev hh, hf.ev hl, hf.ev hm, Instr.sliceAt, run_underlying ht, Instr.slice, Instr.sliceBounds, Instr.sliceBound, asIntOf, hj, hj2, hc, sizeOf, typeInfo, hq, hsz, cutA]

theorem ef_make {t e : TypeId} {l c : Operand} {k k2 : IntKind} {i : Int} {n : Nat} {z : Value} {x : α} (xs : List α) (ho : o.op = .makeSlice t l c) (hl : ev L l = some (.int k i)) (hc : ev L c = some (.int k2 i)) (hi : i = (n : Int)) (ht : P.underlying t = some (.slice e))
    (hinf : (P.info? e).map (fun i => (i.zero, i.size)) = some (some z, Enc.size α)) (hz : z.cells = (Enc.cells x).toArray) (h1 : Enc.size α = 1) (hx : xs = List.replicate n x) (hm : n ≤ 100000) (hby : ∀ i, P.info? e = some i → i.bytes ≤ 100) :
    Ef P N L o b H (fun v H' => ∃ A, v = .slice A xs.length n ∧ H' = Sl A n e xs :: H) := by
  intro a w hf hw
  subst hi; subst hx
  cases hq : P.info? e with
  | none => rw [hq] at hinf; cases hinf
  | some inf =>
    rw [hq] at hinf
    simp only [Option.map_some, Option.some.injEq, Prod.mk.injEq] at hinf
    obtain ⟨hz0, hsz⟩ := hinf
    have hb := hby inf hq
    have hr := run_make (P := P) w t e inf z ht hq hz0 k k2 n n (by omega) (by omega) (by
      have : inf.bytes * n ≤ 100 * 100000 := Nat.mul_le_mul hb hm
      have h2 : ((inf.bytes * n : Nat) : Int) ≤ 10000000 := by omega
      rw [Int.natCast_mul] at h2; omega) (by omega)
    refine ⟨_, w.alloc (.cells (madeCells z.cells ((n : Int).toNat * inf.size)) e), _, ?_, ⟨some ⟨w.heap.size, 0, none⟩, rfl, rfl⟩, ?_⟩
    · simp [execOp, ho, hf.ev hl, hf.ev hc, hr]
    · refine hw.push _ [w.heap.size] rfl rfl rfl (.inr ⟨w.heap.size, _, rfl, rfl, heap_alloc_new w _, by simp, ?_, ?_, ?_⟩) (fun g hg => alloc_old w _ g hg) (by simp) (fun g hg => by simp at hg; omega)
      · simp only [maxLen]; omega
      · rw [size_madeCells, hsz]; simp
      · have hlen1 : (Enc.cells x).length = 1 := by rw [Enc.len, h1]
        have hv : ∃ v, Enc.cells x = [v] := by
          match hcx : Enc.cells x, hlen1 with
          | [v], _ => exact ⟨v, rfl⟩
        obtain ⟨v, hv⟩ := hv
        have hfl : flat (List.replicate n x) = List.replicate n v := by
          clear hm hr hw hf hl hc
          induction n with
          | zero => rfl
          | succ n ih => rw [List.replicate_succ, List.replicate_succ, flat_cons, ih, hv]; rfl
        rw [hfl, h1, hsz, h1]
        simp only [List.length_replicate, Nat.mul_one, Int.toNat_natCast]
        apply List.ext_getElem?
        intro j
        have hz1 : z.cells = #[v] := by rw [hz, hv]
        rw [hz1]
        unfold madeCells
        rcases Nat.lt_or_ge j n with h | h
        · rw [List.getElem?_take]
          simp [h, Nat.mod_one]
        · rw [List.getElem?_take, if_neg (by omega), List.getElem?_eq_none (by simp; omega)]

/-- s[:i] with s[i+1:] behind it, in the memory of s. -/
theorem ef_delete {t e : TypeId} {s x : Operand} {A : Option Addr} {c i : Nat} {xs : List α} (n : Nat) (ho : o.op = .call { callee := .builtin .append, args := #[s, x], argTypes := #[t, t] })
    (hs : ev L s = some (.slice A (xs.take i).length c)) (hn : H[n]? = some (Sl A c e xs)) (hx : ev L x = some (.slice (cutA A c (i + 1) (Enc.size α)) (xs.drop (i + 1)).length (c - (i + 1)))) (hi : i < xs.length) (ht : P.underlying t = some (.slice e)) (hinf : P.cellsOf e = Enc.size α) (hz : Nat.beq (Enc.size α) 0 = false) :
    Ef P N L o b H (fun v H' => v = .slice A (xs.eraseIdx i).length c ∧ H' = H.set n (Sl A c e (xs.eraseIdx i))) := by
  intro a w hf hw
  have hz' : Enc.size α ≠ 0 := Nat.ne_of_beq_eq_false hz
  have hcap := hw.slCap n hn
  obtain ⟨DA, hon, hup⟩ := hw.update hn
  cases hq : P.info? e with
  | none => simp [Program.cellsOf, hq] at hinf; omega
  | some inf =>
    have hsz : inf.size = Enc.size α := by simpa [Program.cellsOf, hq] using hinf
    rcases hon with ⟨_, _, h3, _⟩ | ⟨g, cur, h1, h2, h3, h4, h5, h6, h7⟩
    · subst h3; simp at hi
    have hg : w.heap[g]? = some (.cells cur e (0, 0)) := h3
    subst h1
    have hsrc : ∃ ad, cutA (some ⟨g, 0, none⟩) c (i + 1) (Enc.size α) = some ad ∧ ∀ j u, (flat (xs.drop (i + 1)))[j]? = some u → w.cell? (ad.add j) = some u := by
      by_cases hd : xs.drop (i + 1) = []
      · refine ⟨if c = i + 1 then ⟨g, 0, none⟩ else (⟨g, 0, none⟩ : Addr).add ((i + 1) * Enc.size α), by unfold cutA; split <;> rfl, fun j u hu => by rw [hd] at hu; simp [flat] at hu⟩
      · exact (Rd.of_sl n hn).drop (i + 1) hcap b w hw hd
    obtain ⟨ad, had, hcells⟩ := hsrc
    rw [had] at hx
    have hlt : (xs.take i).length = i := by rw [List.length_take]; omega
    have hld : (xs.drop (i + 1)).length = xs.length - (i + 1) := List.length_drop
    have hlf : (flat (xs.drop (i + 1))).length = (xs.drop (i + 1)).length * inf.size := by rw [flat_length, hsz]
    have hcs : cur.size = c * inf.size := by rw [h6, hsz]
    have hfit : i * inf.size + (flat (xs.drop (i + 1))).length ≤ cur.size := by
      rw [hlf, hcs, ← Nat.add_mul]
      exact Nat.mul_le_mul_right _ (by omega)
    have hrun := run_append_room (P := P) w t o.type e inf ht hq g i c cur hg ad (xs.drop (i + 1)).length (c - (i + 1)) (flat (xs.drop (i + 1))) hlf hcells (flat_one _) (by omega) hfit
    have hel : (xs.eraseIdx i).length = i + (xs.drop (i + 1)).length := by rw [List.length_eraseIdx, if_pos hi]; omega
    refine ⟨_, w.setRow g (cur.toList.take (i * inf.size) ++ flat (xs.drop (i + 1)) ++ cur.toList.drop (i * inf.size + (flat (xs.drop (i + 1))).length)).toArray, _, ?_, ⟨rfl, rfl⟩, hup _ _ [g] rfl rfl rfl (.inr ⟨g, _, rfl, rfl, setRow_heap w g cur _ e (0, 0) hg, by omega, h5, ?_, ?_⟩) (fun g' _ hne => setRow_other w g g' _ (fun e => hne (by rw [h2]; simp [e]))) (by simp) (fun x hx => .inl (by rw [h2]; exact hx))⟩
    · rw [hlt] at hs
      rw [hel]
      simp [execOp, ho, resolve, invoke, builtin, hf.ev hs, hf.ev hx, hrun, -List.length_drop]
    · have h1 : cur.toList.length = cur.size := by simp
      simp only [List.size_toArray, List.length_append, List.length_take, List.length_drop, h1, ← h6]
      omega
    · rw [hel, List.eraseIdx_eq_take_drop_succ, flat_append, flat_take, ← h7]
      simp only
      have hm : min (i * Enc.size α) (xs.length * Enc.size α) = i * Enc.size α := Nat.min_eq_left (Nat.mul_le_mul_right _ (by omega))
      rw [List.take_take, hm, hsz]
      have hlen : (cur.toList.take (i * Enc.size α)).length = i * Enc.size α := by
        rw [List.length_take, Array.length_toList, h6]
        exact Nat.min_eq_left (Nat.mul_le_mul_right _ (by omega))
      rw [List.take_append_of_le_length (by rw [List.length_append, hlen, flat_length, Nat.add_mul]; exact Nat.le_refl _), List.take_of_length_le (by rw [List.length_append, hlen, flat_length, Nat.add_mul]; exact Nat.le_refl _)]

/-- An operation without a result that turns the heap. -/
def Ec (P : Program) (N : Nat) (L : List (Nat × Value)) (o : Oper) (b : World) (H H' : List Asr) : Prop :=
  ∀ a w, Fit N L a → Holds b H w → ∃ v w', (execOp a.eval o).run P w = .ok (.value v) w' ∧ Holds b H' w'
theorem wl_eff0 {l rest : List Oper} {Q : Exit → Act → World → Prop} {H' : List Asr} (hg : gd l L o = some true) (hd : o.dst = none) (h : Ec P N L o b H H') (next : WL P l Q N rest L b H') : WL P l Q N (o :: rest) L b H := by
  intro a w hf hw
  have hw' := gd_wanted hg hf
  obtain ⟨v, w', hr, hh⟩ := h a w hf hw
  simp only [wpList, hw', if_true]
  refine .inl ?_
  simp only [Oper.wp, hr, Oper.upon_value, hd]
  exact next _ _ hf hh

/-- clear of what lies behind a slice in its memory. -/
theorem ec_clear {t e : TypeId} {x : Operand} {A : Option Addr} {c m j : Nat} {xs : List α} {z : Value} (n : Nat) (ho : o.op = .call { callee := .builtin .clear, args := #[x], argTypes := #[t] }) (hx : ev L x = some (.slice (cutA A c j (Enc.size α)) m (c - j))) (hn : H[n]? = some (Sl A c e xs))
    (hj : xs.length ≤ j) (hm : j + m ≤ c) (ht : P.underlying t = some (.slice e)) (hinf : (P.info? e).map (fun i => (i.zero, i.size)) = some (some z, Enc.size α)) (hz : z.cells.size = Enc.size α) (hz1 : ∀ u, u ∈ z.cells → u.oneCell' = true) (hs0 : Nat.beq (Enc.size α) 0 = false) : Ec P N L o b H H := by
  intro a w hf hw
  have hz' : Enc.size α ≠ 0 := Nat.ne_of_beq_eq_false hs0
  obtain ⟨DA, hon, hup⟩ := hw.update hn
  rcases Nat.eq_zero_or_pos m with h0 | h0
  · subst h0
    refine ⟨.tuple #[], w, ?_, hw⟩
    cases hA : cutA A c j (Enc.size α) <;> rw [hA] at hx <;> simp [execOp, ho, resolve, invoke, builtin, hf.ev hx, Builtin.clear_, run_underlying ht] <;> rfl
  cases hq : P.info? e with
  | none => rw [hq] at hinf; cases hinf
  | some inf =>
    rw [hq] at hinf
    simp only [Option.map_some, Option.some.injEq, Prod.mk.injEq] at hinf
    obtain ⟨hz0, hsz⟩ := hinf
    rcases hon with ⟨_, h2, _, _⟩ | ⟨g, cur, h1, h2, h3, h4, h5, h6, h7⟩
    · omega
    have hg : w.heap[g]? = some (.cells cur e (0, 0)) := h3
    subst h1
    have hcut : cutA (some (⟨g, 0, none⟩ : Addr)) c j (Enc.size α) = some ⟨g, j * Enc.size α, none⟩ := by
      unfold cutA
      rw [if_neg (by omega), Option.map_some, add_mk, Nat.zero_add]
    rw [hcut] at hx
    have hlz : (Builtin.zeroCells z.cells m).toList.length = m * Enc.size α := by rw [Array.length_toList, size_zeroCells, hz]
    have h1z : ∀ v, v ∈ (Builtin.zeroCells z.cells m).toList → v.oneCell' = true := by
      intro v hv
      rw [Array.mem_toList_iff] at hv
      unfold Builtin.zeroCells at hv
      obtain ⟨i, _, rfl⟩ := Array.mem_map.1 hv
      have hi : i % z.cells.size < z.cells.size := Nat.mod_lt _ (by omega)
      have e : z.cells[i % z.cells.size]! = z.cells[i % z.cells.size]'hi := getElem!_pos z.cells _ hi
      rw [e]
      exact hz1 _ (Array.getElem_mem hi)
    have hst := run_storeCells_at P g (j * Enc.size α) e (Builtin.zeroCells z.cells m).toList 0 cur w hg (by rw [hlz, h6, Nat.add_zero, ← Nat.add_mul]; exact Nat.mul_le_mul_right _ hm) h1z
    simp only [Nat.add_zero] at hst
    obtain ⟨k, rfl⟩ : ∃ k, m = k + 1 := ⟨m - 1, by omega⟩
    have hzv : (zeroValue e).run P w = .ok z w := by simp [zeroValue, typeInfo, hq, hz0]
    have hrun : (Builtin.clear_ #[t] o.type #[.slice (some ⟨g, j * Enc.size α, none⟩) (k + 1) (c - j)]).run P w = .ok (.tuple #[]) (w.setRow g (cur.toList.take (j * Enc.size α) ++ (Builtin.zeroCells z.cells (k + 1)).toList ++ cur.toList.drop (j * Enc.size α + (Builtin.zeroCells z.cells (k + 1)).toList.length)).toArray) := by
      have hu : (Builtin.clear_ #[t] o.type #[.slice (some ⟨g, j * Enc.size α, none⟩) (k + 1) (c - j)]).run P w = ((storeCells ⟨g, j * Enc.size α, none⟩ (Builtin.zeroCells z.cells (k + 1)).toList).run P w).andThen fun _ w' => .ok (.tuple #[]) w' := by
        unfold Builtin.clear_
        simp [run_underlying ht, hzv]
      rw [hu, hst]
      rfl
    have hself : H.set n (Sl (some ⟨g, 0, none⟩) c e xs) = H := by
      obtain ⟨hlt, he⟩ := List.getElem?_eq_some_iff.1 hn
      rw [← he]; exact List.set_getElem_self hlt
    refine ⟨.tuple #[], w.setRow g (cur.toList.take (j * Enc.size α) ++ (Builtin.zeroCells z.cells (k + 1)).toList ++ cur.toList.drop (j * Enc.size α + (Builtin.zeroCells z.cells (k + 1)).toList.length)).toArray, ?_, hself ▸ hup _ _ [g] rfl rfl rfl (.inr ⟨g, _, rfl, rfl, setRow_heap w g cur _ e (0, 0) hg, h4, h5, ?_, ?_⟩) (fun g' _ hne => setRow_other w g g' _ (fun e => hne (by rw [h2]; simp [e]))) (by simp) (fun x hx => .inl (by rw [h2]; exact hx))⟩
    · simp [execOp, ho, resolve, invoke, builtin, hf.ev hx, hrun]
    · have : j * Enc.size α + (k + 1) * Enc.size α ≤ c * Enc.size α := by rw [← Nat.add_mul]; exact Nat.mul_le_mul_right _ hm
      simp only [List.size_toArray, List.length_append, List.length_take, List.length_drop, hlz, Array.length_toList, h6]
      omega
    · simp only [List.append_assoc]
      have hle : xs.length * Enc.size α ≤ j * Enc.size α := Nat.mul_le_mul_right _ hj
      have hjc : j * Enc.size α ≤ c * Enc.size α := Nat.mul_le_mul_right _ (by omega)
      have hle' : xs.length * Enc.size α ≤ (cur.toList.take (j * Enc.size α)).length := by rw [List.length_take, Array.length_toList (xs := cur), h6, Nat.min_eq_left hjc]; exact hle
      rw [List.take_append_of_le_length hle', List.take_take, Nat.min_eq_left hle, h7]
end cuts

/-! ### Memory that is only read -/

/-- A slice in memory: where it lies, its capacity, and what it reads. -/
structure Mem (α : Type) where
  A : Option Addr
  c : Nat
  xs : List α

/-- A pool: memory in which each of the slices reads so. -/
def Pool {α : Type} [Enc α] (ms : List (Mem α)) : Asr where
  on D h := (∀ g, g ∈ D → (h g).isSome = true) ∧ ∀ m, m ∈ ms → m.xs ≠ [] → ∃ ad, m.A = some ad ∧ ad.block ∈ D ∧ ∀ j u, (flat m.xs)[j]? = some u → ∀ w : World, (∀ g, g ∈ D → w.heap[g]? = h g) → w.cell? (ad.add j) = some u
  loc := fun D h h' ⟨hd, hm⟩ he => ⟨fun g hg => by rw [he g hg]; exact hd g hg, fun m h1 h2 => by
    obtain ⟨ad, e, hb, hc⟩ := hm m h1 h2
    exact ⟨ad, e, hb, fun j u hu w hw => hc j u hu w (fun g hg => (hw g hg).trans (he g hg))⟩⟩
  dom := fun D h ⟨hd, _⟩ => hd

section pool
variable {α : Type} [Enc α] {b w : World} {H : List Asr} {ms : List (Mem α)}
theorem Rd.pool {m : Mem α} (n : Nat) (hn : H[n]? = some (Pool ms)) (hm : m ∈ ms) : Rd H m.A m.xs := by
  intro b w hw hx
  obtain ⟨DA, ⟨_, hp⟩, _⟩ := hw.update hn
  obtain ⟨ad, e, _, hc⟩ := hp m hm hx
  exact ⟨ad, e, fun j u hu => hc j u hu w (fun _ _ => rfl)⟩
theorem Holds.poolNil (hw : Holds b H w) : Holds b (Pool ([] : List (Mem α)) :: H) w :=
  hw.push _ [] rfl rfl rfl ⟨by simp, by simp⟩ (fun _ _ => rfl) (by simp) (by simp)
theorem Holds.poolIn {A : Option Addr} {c : Nat} {e : TypeId} {xs : List α} (hw : Holds b (Sl A c e xs :: Pool ms :: H) w) : Holds b (Pool (⟨A, c, xs⟩ :: ms) :: H) w := by
  obtain ⟨ho, ht, hp, D, hnd, E1, D', e1, ha, E2, D2, e2, ⟨hd, hm⟩, hr⟩ := hw
  subst e1; subst e2
  refine ⟨ho, ht, hp, _, hnd, E1 ++ E2, D2, by simp, ⟨fun g hg => ?_, fun m h1 h2 => ?_⟩, hr⟩
  · rcases List.mem_append.1 hg with h | h
    · exact (Sl A c e xs).dom _ _ ha g h
    · exact hd g h
  · rcases List.mem_cons.1 h1 with rfl | h1
    · rcases ha with ⟨_, _, h3, _⟩ | ⟨g, cur, h3, h4, h5, h6, h7, h8, h9⟩
      · exact absurd h3 h2
      · refine ⟨⟨g, 0, none⟩, h3, by simp [h4], fun j u hu w' hw' => ?_⟩
        have h5' : w'.heap[g]? = some (.cells cur e (0, 0)) := by rw [hw' g (by simp [h4])]; exact h5
        rw [add_mk, Nat.zero_add, cell_of_row w' g j cur e (0, 0) h5']
        have hu' : (flat xs)[j]? = some u := hu
        rw [← h9, List.getElem?_take] at hu'
        split at hu'
        · simpa using hu'
        · cases hu'
    · obtain ⟨ad, e, hb, hc⟩ := hm m h1 h2
      exact ⟨ad, e, List.mem_append_right _ hb, fun j u hu w' hw' => hc j u hu w' (fun g hg => hw' g (List.mem_append_right _ hg))⟩
theorem Holds.poolSub {ms' : List (Mem α)} (hw : Holds b (Pool ms :: H) w) (hs : ∀ m, m ∈ ms' → m ∈ ms) : Holds b (Pool ms' :: H) w := by
  obtain ⟨ho, ht, hp, D, hnd, D1, D2, e, ⟨hd, hm⟩, hr⟩ := hw
  exact ⟨ho, ht, hp, D, hnd, D1, D2, e, ⟨hd, fun m h1 h2 => hm m (hs m h1) h2⟩, hr⟩
end pool
end Go.Proofs.Yteecjaiklpkhaaa

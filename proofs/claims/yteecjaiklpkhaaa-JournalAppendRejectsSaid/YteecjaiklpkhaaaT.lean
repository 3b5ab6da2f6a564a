/- Frames in plain lists: what a sequence of bytes holds; cuts and changes. -/
import Derived.Test.YteecjaiklpkhaaaK7
import Derived.Test.YteecjaiklpkhaaaQ
namespace Go.Proofs.Yteecjaiklpkhaaa
open Go

abbrev b8 (n : Nat) : UInt8 := UInt8.ofNat n
theorem b8_nat (n : Nat) : (b8 n).toNat = n % 256 := by rw [UInt8.toNat_ofNat']
def be4 (c : Nat) : List UInt8 := [b8 (c / 16777216), b8 (c / 65536), b8 (c / 256), b8 c]
/-- The frame of a record. -/
def fr (r : List UInt8) : List UInt8 := b8 (r.length / 256) :: b8 r.length :: (r ++ be4 (crc r))
def jenc : List (List UInt8) → List UInt8
  | [] => []
  | r :: rs => fr r ++ jenc rs
def okR (r : List UInt8) : Prop := 1 ≤ r.length ∧ r.length ≤ 400
instance (r : List UInt8) : Decidable (okR r) := by unfold okR; infer_instance
/-- The number at the head. -/
def nn (d : List UInt8) : Nat := (at_ d 0).toNat * 256 + (at_ d 1).toNat
def rec1 (d : List UInt8) : List UInt8 := (d.drop 2).take (nn d)
def good (d : List UInt8) : Prop := 1 ≤ nn d ∧ nn d ≤ 400 ∧ 6 + nn d ≤ d.length ∧ (d.drop (2 + nn d)).take 4 = be4 (crc (rec1 d))
instance (d : List UInt8) : Decidable (good d) := by unfold good; infer_instance
/-- The records at the beginning, at most so many. -/
def prs : Nat → List UInt8 → List (List UInt8)
  | 0, _ => []
  | f + 1, d => if good d then rec1 d :: prs f (d.drop (6 + nn d)) else []

theorem fr_length (r : List UInt8) : (fr r).length = r.length + 6 := by simp [fr, be4]
theorem jenc_append (a b : List (List UInt8)) : jenc (a ++ b) = jenc a ++ jenc b := by
  induction a with
  | nil => rfl
  | cons r a ih => simp [jenc, ih]
theorem jenc_snoc (a : List (List UInt8)) (r : List UInt8) : jenc (a ++ [r]) = jenc a ++ fr r := by rw [jenc_append]; simp [jenc]
theorem jenc_le {rs : List (List UInt8)} (h : ∀ r, r ∈ rs → okR r) : (jenc rs).length ≤ 406 * rs.length := by
  induction rs with
  | nil => simp [jenc]
  | cons r rs ih =>
    have h1 := h r (by simp)
    have h2 := ih (fun r hr => h r (by simp [hr]))
    unfold okR at h1
    simp only [jenc, List.length_append, fr_length, List.length_cons]
    omega

theorem nn_hdr (n : Nat) (hn : n < 65536) (t : List UInt8) : nn (b8 (n / 256) :: b8 n :: t) = n := by
  show (b8 (n / 256)).toNat * 256 + (b8 n).toNat = n
  rw [b8_nat, b8_nat]; omega
theorem nn_fr {r : List UInt8} (h : okR r) (e : List UInt8) : nn (fr r ++ e) = r.length := by
  unfold okR at h
  exact nn_hdr r.length (by omega) _
theorem rec1_hdr (n : Nat) (hn : n < 65536) (r e : List UInt8) (hr : r.length = n) : rec1 (b8 (n / 256) :: b8 n :: (r ++ e)) = r := by
  unfold rec1
  rw [nn_hdr n hn]
  show (r ++ e).take n = r
  rw [List.take_append_of_le_length (by omega), List.take_of_length_le (by omega)]
theorem drop_hdr (n : Nat) (r e : List UInt8) (hr : r.length = n) (x y : UInt8) : (x :: y :: (r ++ e)).drop (2 + n) = e := by
  rw [Nat.add_comm]
  show (r ++ e).drop n = e
  rw [List.drop_append_of_le_length (by omega), List.drop_of_length_le (by omega), List.nil_append]
theorem rec1_fr {r : List UInt8} (h : okR r) (e : List UInt8) : rec1 (fr r ++ e) = r := by
  unfold okR at h
  have := rec1_hdr r.length (by omega) r (be4 (crc r) ++ e) rfl
  rwa [← List.append_assoc] at this
theorem dropf_fr {r : List UInt8} (h : okR r) (e : List UInt8) : (fr r ++ e).drop (6 + nn (fr r ++ e)) = e := by
  rw [nn_fr h, List.drop_append_of_le_length (by rw [fr_length]; omega), List.drop_of_length_le (by rw [fr_length]; omega), List.nil_append]
theorem good_fr {r : List UInt8} (h : okR r) (e : List UInt8) : good (fr r ++ e) := by
  have hn := nn_fr h e
  unfold good
  rw [rec1_fr h, hn]
  unfold okR at h
  refine ⟨h.1, h.2, by rw [List.length_append, fr_length]; omega, ?_⟩
  have := drop_hdr r.length r (be4 (crc r) ++ e) rfl (b8 (r.length / 256)) (b8 r.length)
  rw [← List.append_assoc] at this
  show ((b8 (r.length / 256) :: b8 r.length :: ((r ++ be4 (crc r)) ++ e)).drop (2 + r.length)).take 4 = _
  rw [this]
  rfl
theorem bad_short {d : List UInt8} (h : d.length < 6) : ¬ good d := fun hg => by have := hg.2.2.1; omega
theorem at_take {α : Type} [Inhabited α] (l : List α) (n k : Nat) (h : k < n) : at_ (l.take n) k = at_ l k := by
  unfold at_; rw [List.getD_eq_getElem?_getD, List.getD_eq_getElem?_getD, List.getElem?_take, if_pos h]
theorem bad_cut {r : List UInt8} (h : okR r) (e : List UInt8) (n : Nat) (hn : n < r.length + 6) : ¬ good ((fr r ++ e).take n) := by
  intro hg
  have hl := hg.2.2.1
  rw [List.length_take] at hl
  rcases Nat.lt_or_ge n 2 with h2 | h2
  · omega
  · have : nn ((fr r ++ e).take n) = nn (fr r ++ e) := by unfold nn; rw [at_take _ _ _ (by omega), at_take _ _ _ (by omega)]
    rw [this, nn_fr h] at hl
    omega

theorem prs_bad {d : List UInt8} (h : ¬ good d) (f : Nat) : prs f d = [] := by cases f <;> simp [prs, h]
theorem prs_good {d : List UInt8} (h : good d) (f : Nat) : prs (f + 1) d = rec1 d :: prs f (d.drop (6 + nn d)) := by simp [prs, h]
theorem prs_append : ∀ (rs : List (List UInt8)) (f : Nat) (e : List UInt8), (∀ r, r ∈ rs → okR r) → rs.length ≤ f → prs f (jenc rs ++ e) = rs ++ prs (f - rs.length) e
  | [], f, e, _, _ => by simp [jenc]
  | r :: rs, 0, e, _, hf => by simp at hf
  | r :: rs, f + 1, e, h, hf => by
    have hr := h r (by simp)
    simp only [jenc, List.append_assoc]
    rw [prs_good (good_fr hr _), rec1_fr hr, dropf_fr hr, prs_append rs f e (fun r hr => h r (by simp [hr])) (by simpa using hf)]
    simp
theorem prs_all {rs : List (List UInt8)} {f : Nat} (h : ∀ r, r ∈ rs → okR r) (hf : rs.length ≤ f) : prs f (jenc rs) = rs := by
  have := prs_append rs f [] h hf
  rwa [List.append_nil, prs_bad (d := []) (bad_short (by simp)), List.append_nil] at this
theorem prs_take : ∀ (rs : List (List UInt8)) (f n : Nat), (∀ r, r ∈ rs → okR r) → rs.length ≤ f →
    ∃ q, q ≤ rs.length ∧ prs f ((jenc rs).take n) = rs.take q ∧ ∀ m, m ≤ rs.length → ((jenc (rs.take m)).length ≤ n ↔ m ≤ q)
  | [], f, n, _, _ => ⟨0, Nat.le_refl _, by simp [jenc, prs_bad (bad_short (d := []) (by simp))], fun m hm => by simp at hm; subst hm; simp [jenc]⟩
  | r :: rs, 0, n, _, hf => by simp at hf
  | r :: rs, f + 1, n, h, hf => by
    have hr := h r (by simp)
    have hfl := fr_length r
    rcases Nat.lt_or_ge n (r.length + 6) with hn | hn
    · refine ⟨0, Nat.zero_le _, ?_, fun m hm => ?_⟩
      · simp only [jenc, List.take_zero]
        exact prs_bad (bad_cut hr _ n hn) _
      · cases m with
        | zero => simp [jenc]
        | succ m =>
          simp only [List.take_succ_cons, jenc, List.length_append, hfl]
          omega
    · obtain ⟨q, hq, he, hm⟩ := prs_take rs f (n - (r.length + 6)) (fun r hr => h r (by simp [hr])) (by simpa using hf)
      have ht : (fr r ++ jenc rs).take n = fr r ++ (jenc rs).take (n - (r.length + 6)) := by
        rw [List.take_append, List.take_of_length_le (by omega), hfl]
      refine ⟨q + 1, by simpa using hq, ?_, fun m hm2 => ?_⟩
      · simp only [jenc]
        rw [ht, prs_good (good_fr hr _), rec1_fr hr, dropf_fr hr, he]
        rfl
      · cases m with
        | zero => simp [jenc]
        | succ m =>
          have := hm m (by simpa using hm2)
          simp only [List.take_succ_cons, jenc, List.length_append, hfl]
          omega

theorem b8_head (a b : UInt8) : b8 ((a.toNat * 256 + b.toNat) / 256) = a ∧ b8 (a.toNat * 256 + b.toNat) = b := by
  have ha := a.toNat_lt
  have hb := b.toNat_lt
  constructor
  · apply UInt8.toNat_inj.1; rw [b8_nat]; omega
  · apply UInt8.toNat_inj.1; rw [b8_nat]; omega
theorem rec1_len {d : List UInt8} (h : good d) : (rec1 d).length = nn d := by
  have := h.2.2.1
  unfold rec1
  rw [List.length_take, List.length_drop]; omega
theorem good_okR {d : List UInt8} (h : good d) : okR (rec1 d) := by
  unfold okR; rw [rec1_len h]; exact ⟨h.1, h.2.1⟩
theorem good_split {d : List UInt8} (h : good d) : d = fr (rec1 d) ++ d.drop (6 + nn d) := by
  have hl := h.2.2.1
  have h4 := h.2.2.2
  obtain ⟨a, b, t, rfl⟩ : ∃ a b t, d = a :: b :: t := by
    cases d with
    | nil => exact absurd hl (by rw [List.length_nil]; omega)
    | cons a d => cases d with
      | nil => exact absurd hl (by rw [List.length_cons, List.length_nil]; omega)
      | cons b t => exact ⟨a, b, t, rfl⟩
  have hnn : nn (a :: b :: t) = a.toNat * 256 + b.toNat := rfl
  generalize hk : nn (a :: b :: t) = k at *
  have hr : rec1 (a :: b :: t) = t.take k := by unfold rec1; rw [hk]; rfl
  have hlen := rec1_len h
  rw [hk] at hlen
  have e1 : (a :: b :: t).drop (2 + k) = t.drop k := by rw [Nat.add_comm]; rfl
  have e2 : (a :: b :: t).drop (6 + k) = t.drop (k + 4) := by rw [show 6 + k = (k + 4) + 2 by omega]; rfl
  rw [e1] at h4
  rw [e2]
  unfold fr
  rw [hlen, ← h4, hr]
  have e3 : t = t.take k ++ t.drop k := (List.take_append_drop k t).symm
  have e4 : t.drop k = (t.drop k).take 4 ++ t.drop (k + 4) := by rw [← List.drop_drop]; exact (List.take_append_drop 4 _).symm
  have e5 : a :: b :: t = b8 (k / 256) :: b8 k :: t := by rw [hnn, (b8_head a b).1, (b8_head a b).2]
  rw [e5]
  show b8 (k / 256) :: b8 k :: t = b8 (k / 256) :: b8 k :: ((t.take k ++ (t.drop k).take 4) ++ t.drop (k + 4))
  rw [List.append_assoc]
  exact congrArg (fun y => b8 (k / 256) :: b8 k :: y) (e3.trans (congrArg (fun y => t.take k ++ y) e4))

/-! ### Where the records lie -/
structure Sp where
  a : Int
  z : Int
deriving Inhabited
def spans : Nat → List (List UInt8) → List Sp
  | _, [] => []
  | p, r :: rs => ⟨(p : Int) + 2, (p : Int) + 2 + r.length⟩ :: spans (p + r.length + 6) rs
theorem spans_len : ∀ (rs : List (List UInt8)) (p : Nat), (spans p rs).length = rs.length
  | [], _ => rfl
  | r :: rs, p => by simp [spans, spans_len rs]
theorem spans_snoc : ∀ (rs : List (List UInt8)) (p : Nat) (r : List UInt8), spans p (rs ++ [r]) = spans p rs ++ [⟨(p : Int) + (jenc rs).length + 2, (p : Int) + (jenc rs).length + 2 + r.length⟩]
  | [], p, r => by simp [spans, jenc]
  | x :: rs, p, r => by
    simp only [List.cons_append, spans, spans_snoc rs, jenc, List.length_append, fr_length]
    congr 3
    simp only [List.cons.injEq, Sp.mk.injEq, and_true]
    omega
theorem spans_at : ∀ (rs : List (List UInt8)) (p i : Nat), i < rs.length → at_ (spans p rs) i = ⟨(p : Int) + (jenc (rs.take i)).length + 2, (p : Int) + (jenc (rs.take i)).length + 2 + (at_ rs i).length⟩
  | [], _, _, h => by simp at h
  | r :: rs, p, 0, _ => by simp [spans, jenc, at_]
  | r :: rs, p, i + 1, h => by
    simp only [spans, at_cons_succ, List.take_succ_cons, jenc, List.length_append, fr_length]
    rw [spans_at rs _ i (by simpa using h)]
    simp only [Sp.mk.injEq]
    omega
theorem jenc_split (rs : List (List UInt8)) (i : Nat) (h : i < rs.length) : jenc rs = jenc (rs.take i) ++ (fr (at_ rs i) ++ jenc (rs.drop (i + 1))) := by
  have h1 : rs = rs.take i ++ (at_ rs i :: rs.drop (i + 1)) := by
    have := (List.take_append_drop i rs).symm
    rwa [List.drop_eq_getElem_cons h, show rs[i] = at_ rs i by have := at_some h; rw [List.getElem?_eq_getElem h] at this; exact Option.some.inj this] at this
  conv => lhs; rw [h1, jenc_append]
  rfl
theorem jenc_take_le (rs : List (List UInt8)) (i : Nat) : (jenc (rs.take i)).length ≤ (jenc rs).length := by
  have : jenc rs = jenc (rs.take i) ++ jenc (rs.drop i) := by rw [← jenc_append, List.take_append_drop]
  rw [this, List.length_append]; omega
theorem jenc_in (rs : List (List UInt8)) (i : Nat) (h : i < rs.length) : (jenc (rs.take i)).length + (at_ rs i).length + 6 ≤ (jenc rs).length := by
  rw [jenc_split rs i h]; simp only [List.length_append, fr_length]; omega
theorem cut_mid (p r e : List UInt8) : ((p ++ (fr r ++ e)).take (p.length + 2 + r.length)).drop (p.length + 2) = r := by
  rw [Nat.add_assoc, List.take_append, List.take_of_length_le (l := p) (by omega), Nat.add_sub_cancel_left, List.drop_append, List.drop_of_length_le (l := p) (by omega), Nat.add_sub_cancel_left, List.nil_append, Nat.add_comm 2]
  unfold fr
  show (((r ++ be4 (crc r)) ++ e).take r.length) = r
  rw [List.append_assoc, List.take_append_of_le_length (by omega), List.take_of_length_le (by omega)]
/-- The record, cut out of the bytes. -/
theorem cut_at (rs : List (List UInt8)) (i : Nat) (h : i < rs.length) : ((jenc rs).take ((jenc (rs.take i)).length + 2 + (at_ rs i).length)).drop ((jenc (rs.take i)).length + 2) = at_ rs i := by
  rw [jenc_split rs i h]
  exact cut_mid _ _ _

/-! ### A changed byte -/
theorem be4_inj {c d : Nat} (hc : c < 4294967296) (hd : d < 4294967296) (h : be4 c = be4 d) : c = d := by
  unfold be4 at h
  simp only [List.cons.injEq, and_true] at h
  obtain ⟨h1, h2, h3, h4⟩ := h
  have e1 := congrArg UInt8.toNat h1
  have e2 := congrArg UInt8.toNat h2
  have e3 := congrArg UInt8.toNat h3
  have e4 := congrArg UInt8.toNat h4
  rw [b8_nat, b8_nat] at e1 e2 e3 e4
  omega
theorem crc_set (r : List UInt8) (i : Nat) (hi : i < r.length) (x : UInt8) (hx : x ≠ at_ r i) : crc (r.set i x) ≠ crc r := by
  intro h
  have hg : r[i] = at_ r i := by have := at_some hi; rw [List.getElem?_eq_getElem hi] at this; exact Option.some.inj this
  have h1 : r = r.take i ++ at_ r i :: r.drop (i + 1) := by
    have := (List.take_append_drop i r).symm
    rwa [List.drop_eq_getElem_cons hi, hg] at this
  have h2 : r.set i x = r.take i ++ x :: r.drop (i + 1) := List.set_eq_take_append_cons_drop.trans (if_pos hi)
  rw [h2] at h
  have h3 : crc r = crc (r.take i ++ at_ r i :: r.drop (i + 1)) := congrArg crc h1
  rw [h3] at h
  exact hx (crc_change _ _ _ _ h)
theorem prs_set (rs : List (List UInt8)) (h : ∀ r, r ∈ rs → okR r) (f k i : Nat) (hk : k < rs.length) (hf : rs.length ≤ f) (hi : i < (at_ rs k).length) (x : UInt8) (hx : x ≠ at_ (at_ rs k) i) :
    prs f ((jenc rs).set ((jenc (rs.take k)).length + 2 + i) x) = rs.take k := by
  have hr : okR (at_ rs k) := h _ (at_in hk)
  have hs : (jenc rs).set ((jenc (rs.take k)).length + 2 + i) x = jenc (rs.take k) ++ (b8 ((at_ rs k).length / 256) :: b8 (at_ rs k).length :: ((at_ rs k).set i x ++ (be4 (crc (at_ rs k)) ++ jenc (rs.drop (k + 1))))) := by
    conv => lhs; rw [jenc_split rs k hk]
    rw [List.set_append_right _ _ (by omega), show (jenc (rs.take k)).length + 2 + i - (jenc (rs.take k)).length = i + 2 by omega]
    unfold fr
    simp only [List.cons_append, List.append_assoc, List.set_cons_succ]
    rw [List.set_append_left _ _ hi]
  rw [hs, prs_append _ f _ (fun r hr => h r (List.mem_of_mem_take hr)) (by rw [List.length_take]; omega)]
  rw [prs_bad, List.append_nil]
  intro hg
  have h4 := hg.2.2.2
  unfold okR at hr
  have hn := nn_hdr (at_ rs k).length (by omega) ((at_ rs k).set i x ++ (be4 (crc (at_ rs k)) ++ jenc (rs.drop (k + 1))))
  rw [hn, rec1_hdr _ (by omega) _ _ (by simp), drop_hdr _ _ _ (by simp)] at h4
  have h5 : be4 (crc (at_ rs k)) = be4 (crc ((at_ rs k).set i x)) := h4
  exact crc_set _ i hi x hx (be4_inj (crc_lt _) (crc_lt _) h5).symm
end Go.Proofs.Yteecjaiklpkhaaa

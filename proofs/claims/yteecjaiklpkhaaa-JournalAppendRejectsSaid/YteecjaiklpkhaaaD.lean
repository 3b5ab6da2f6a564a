/- Walks of a frame and of both ways to open. -/
import Derived.Test.YteecjaiklpkhaaaC
namespace Go.Proofs.Yteecjaiklpkhaaa
open Go

theorem at_drop (l : List UInt8) (p i : Nat) : at_ (l.drop p) i = at_ l (p + i) := by unfold at_; rw [List.getD_eq_getElem?_getD, List.getD_eq_getElem?_getD, List.getElem?_drop]
theorem nn_drop (l : List UInt8) (p : Nat) : nn (l.drop p) = (at_ l p).toNat * 256 + (at_ l (p + 1)).toNat := by unfold nn; rw [at_drop, at_drop]; rfl
theorem cut_rec (l : List UInt8) (p n : Nat) (h : nn (l.drop p) = n) : (l.take (p + 2 + n)).drop (p + 2) = rec1 (l.drop p) := by
  unfold rec1; rw [h, List.drop_take, List.drop_drop, Nat.add_sub_cancel_left]
theorem cut_sum (l : List UInt8) (p n : Nat) : (l.take (p + 2 + n + 4)).drop (p + 2 + n) = ((l.drop p).drop (2 + n)).take 4 := by
  rw [List.drop_take, List.drop_drop, Nat.add_sub_cancel_left, Nat.add_assoc]
theorem cell0 (l : List UInt8) (j : Nat) : (Enc.cells (at_ l j))[0]? = some (.int .u8 (((at_ l j).toNat : Nat) : Int)) := rfl
/-- What has been read of the bytes so far. -/
structure OI (bs : List UInt8) (ms : List (List UInt8)) : Prop where
  len : ms.length ≤ 20000
  ok : ∀ r, r ∈ ms → okR r
  le : (jenc ms).length ≤ bs.length
  pre : bs.take (jenc ms).length = jenc ms
  eq : prs 20000 bs = ms ++ prs (20000 - ms.length) (bs.drop (jenc ms).length)
theorem OI.zero (bs : List UInt8) : OI bs [] := ⟨by simp, by simp, by simp [jenc], by simp [jenc], by simp [jenc]⟩
theorem OI.size {bs : List UInt8} {ms : List (List UInt8)} (h : OI bs ms) : (jenc ms).length ≤ 8120000 := by
  have h1 := jenc_le h.ok
  have h2 := h.len
  omega
theorem OI.step {bs : List UInt8} {ms : List (List UInt8)} (h : OI bs ms) (hn : ms.length < 20000) (hg : good (bs.drop (jenc ms).length)) : OI bs (ms ++ [rec1 (bs.drop (jenc ms).length)]) := by
  have hs := good_split hg
  have hl := rec1_len hg
  have h6 := hg.2.2.1
  rw [List.length_drop] at h6
  have hjl : (jenc (ms ++ [rec1 (bs.drop (jenc ms).length)])).length = (jenc ms).length + (6 + nn (bs.drop (jenc ms).length)) := by
    rw [jenc_snoc, List.length_append, fr_length, hl]; omega
  have hb : bs = jenc (ms ++ [rec1 (bs.drop (jenc ms).length)]) ++ bs.drop ((jenc ms).length + (6 + nn (bs.drop (jenc ms).length))) := by
    rw [jenc_snoc, List.append_assoc, ← List.drop_drop, ← hs]
    have := (List.take_append_drop (jenc ms).length bs).symm
    rwa [h.pre] at this
  refine ⟨by rw [List.length_append, List.length_singleton]; omega, fun r hr => ?_, by omega, ?_, ?_⟩
  · rcases List.mem_append.1 hr with hr | hr
    · exact h.ok r hr
    · simp at hr; subst hr; exact good_okR hg
  · exact (congrArg (List.take _) hb).trans List.take_left
  · rw [h.eq, hjl]
    obtain ⟨k, hk⟩ : ∃ k, 20000 - ms.length = k + 1 := ⟨20000 - ms.length - 1, by omega⟩
    rw [hk, prs_good hg k, List.drop_drop, List.length_append, List.length_singleton, show 20000 - (ms.length + 1) = k by omega, List.append_assoc]
    rfl
theorem OI.full {bs : List UInt8} {ms : List (List UInt8)} (h : OI bs ms) (hn : 20000 ≤ ms.length) : prs 20000 bs = ms := by
  rw [h.eq, show 20000 - ms.length = 0 by omega]; simp [prs]
theorem OI.stop {bs : List UInt8} {ms : List (List UInt8)} (h : OI bs ms) (hg : ¬ good (bs.drop (jenc ms).length)) : prs 20000 bs = ms := by
  rw [h.eq, prs_bad hg, List.append_nil]
theorem nm2 (d : List UInt8) (h : 2 ≤ d.length) : nm (d.take 2) = nn d := by
  match d, h with
  | a :: b :: t, _ => simp [nm, nn, at_]
theorem nm_be4 {x : List UInt8} (hx : x.length = 4) {c : Nat} (hc : c < 4294967296) : nm x = c ↔ x = be4 c := by
  match x, hx with
  | [a, b, d, e], _ =>
    have h1 := a.toNat_lt
    have h2 := b.toNat_lt
    have h3 := d.toNat_lt
    have h4 := e.toNat_lt
    have hn : nm [a, b, d, e] = ((a.toNat * 256 + b.toNat) * 256 + d.toNat) * 256 + e.toNat := by simp [nm]
    rw [hn]
    constructor
    · intro h
      unfold be4
      simp only [List.cons.injEq, and_true]
      refine ⟨?_, ?_, ?_, ?_⟩ <;> (apply UInt8.toNat_inj.1; rw [b8_nat]; omega)
    · intro h
      unfold be4 at h
      simp only [List.cons.injEq, and_true] at h
      obtain ⟨e1, e2, e3, e4⟩ := h
      have e1 := congrArg UInt8.toNat e1
      have e2 := congrArg UInt8.toNat e2
      have e3 := congrArg UInt8.toNat e3
      have e4 := congrArg UInt8.toNat e4
      rw [b8_nat] at e1 e2 e3 e4
      omega

theorem frame_good (bs : List UInt8) (A : Option Addr) (c p : Nat) (b : World) (H : List Asr) (hR : Rd H A bs) (hcap : bs.length ≤ c) (hbig : bs.length ≤ 140737488351232) (hp : p ≤ bs.length) (hg : good (bs.drop p)) : Fn Try.prog 35 [.slice A bs.length c, .int .i64 (p : Int)] b H (fun v H' => v = .tuple #[.agg #[.int .i64 ((p : Int) + 2), .int .i64 ((p : Int) + 2 + (nn (bs.drop p) : Int))], .bool true] ∧ H = H') := by
  have hdl : (bs.drop p).length = bs.length - p := List.length_drop
  have hnn := nn_drop bs p
  have hg1 := hg.1
  have hg2 := hg.2.1
  have hg3 := hg.2.2.1
  have heq : (bs.take (p + 2 + nn (bs.drop p) + 4)).drop (p + 2 + nn (bs.drop p)) = be4 (crc (rec1 (bs.drop p))) := by rw [cut_sum]; exact hg.2.2.2
  refine fn_of_at (by kernel_rfl) Try.func35 rfl Try.ntmps35 rfl rfl ?_
  refine at_seq ?_
  refine at_region ?_
  refine wl_eff rfl rfl rfl (ef_alloc (cs := [.int .i64 0, .int .i64 0]) (z := .agg #[.int .i64 0, .int .i64 0]) rfl (by kernel_rfl) rfl) ?_
  rintro _ _ ⟨g4, rfl, rfl⟩
  refine wl_read rfl rfl rfl (yl_assign rfl rfl) ?_
  refine wl_nil ?_
  refine at_keep (Keep.cons 0 rfl (Keep.cons 1 rfl (Keep.cons 4 rfl (Keep.cons 5 rfl Keep.nil)))) ?_
  refine at_seq ?_
  refine at_seq ?_
  refine at_region ?_
  refine wl_read rfl rfl rfl (yl_move rfl rfl) ?_
  refine wl_read rfl rfl rfl (yl_len rfl rfl Try.underlying30) ?_
  refine wl_read rfl rfl rfl (yl_move rfl rfl) ?_
  refine wl_read rfl rfl rfl (yl_sub rfl rfl rfl (w64 (by omega) (by omega))) ?_
  refine wl_read rfl rfl rfl ((yp_lss rfl rfl rfl).2 (by omega)) ?_
  refine wl_nil ?_
  refine at_keep (Keep.cons 0 rfl (Keep.cons 1 rfl (Keep.cons 4 rfl (Keep.cons 5 rfl (Keep.cons 13 rfl Keep.nil))))) ?_
  refine at_false rfl ?_
  refine at_skip ?_
  refine at_seq ?_
  have hj0 : p < bs.length := by omega
  have hj1 : p + 1 < bs.length := by omega
  have hb0 := (at_ bs p).toNat_lt
  have hb1 := (at_ bs (p + 1)).toNat_lt
  refine at_draw0 (.fl 0 (.fl 1 (.fl 2 (.fl 3 (.fl 4 (.fl 5 (.fl 6 (.fl 7 (.fl 8 (.fl 9 (.fl 10 (.fl 11 (.fl 12 (.fl 13 .nil)))))))))))))) (by kernel_rfl) (by kernel_rfl) ?_
  refine wt_read rfl rfl rfl rfl (yl_move rfl rfl) ?_
  refine wt_read rfl rfl rfl rfl (yl_move rfl rfl) ?_
  refine wt_read rfl rfl rfl rfl (yl_index rfl rfl rfl (hR.cons _) (at_some hj0) rfl rfl Try.underlying30 (by kernel_rfl) rfl) ?_
  refine wt_read rfl rfl rfl rfl (yl_load rfl rfl Try.underlying5 rfl ((hR.cons _).cell2 (at_some hj0) (i := 0) rfl)) ?_
  refine wt_read rfl rfl rfl rfl (yl_conv rfl rfl rfl Try.underlying3 (w64 (by omega) (by omega))) ?_
  refine wt_read rfl rfl rfl rfl (yl_shl (r := (((at_ bs p).toNat * 256 : Nat) : Int)) rfl rfl rfl (by decide) (by decide) (by show IntKind.i64.wrap ((((at_ bs p).toNat : Nat) : Int) * 256) = _; rw [w64 (by omega) (by omega)]; omega)) ?_
  refine wt_read rfl rfl rfl rfl (yl_move rfl rfl) ?_
  refine wt_read rfl rfl rfl rfl (yl_move rfl rfl) ?_
  refine wt_read rfl rfl rfl rfl (yl_add rfl rfl rfl (w64 (by omega) (by omega))) ?_
  refine wt_read rfl rfl rfl rfl (yl_index rfl rfl rfl (hR.cons _) (at_some hj1) (by omega) rfl Try.underlying30 (by kernel_rfl) rfl) ?_
  refine wt_read rfl rfl rfl rfl (yl_load rfl rfl Try.underlying5 rfl ((hR.cons _).cell2 (at_some hj1) (i := 0) rfl)) ?_
  refine wt_read rfl rfl rfl rfl (yl_conv rfl rfl rfl Try.underlying3 (w64 (by omega) (by omega))) ?_
  refine wt_read rfl rfl rfl rfl (yl_or (r := ((nn (bs.drop p) : Nat) : Int)) rfl rfl rfl (by rw [or64_push _ _ (by omega) hb1, hnn])) ?_
  refine wt_read rfl rfl rfl rfl (yl_assign rfl rfl) ?_
  refine wt_nil ?_
  refine at_keep (Keep.cons 0 rfl (Keep.cons 1 rfl (Keep.cons 4 rfl (Keep.cons 5 rfl (Keep.cons 6 rfl (Keep.cons 13 rfl Keep.nil)))))) ?_
  refine at_seq ?_
  refine at_region ?_
  refine wl_read rfl rfl rfl (yl_move rfl rfl) ?_
  refine wl_read rfl rfl rfl (yl_add rfl rfl rfl (w64 (by omega) (by omega))) ?_
  refine wl_read rfl rfl rfl (yl_move rfl rfl) ?_
  refine wl_read rfl rfl rfl (yl_add rfl rfl rfl (w64 (by omega) (by omega))) ?_
  refine wl_read rfl rfl rfl (yl_move rfl rfl) ?_
  refine wl_read rfl rfl rfl (yl_add rfl rfl rfl (w64 (by omega) (by omega))) ?_
  refine wl_read rfl rfl rfl (yl_build (cs := [.int .i64 ((p : Int) + 2), .int .i64 ((p : Int) + 2 + (nn (bs.drop p) : Int))]) rfl rfl (fun _ => by kernel_rfl)) ?_
  refine wl_eff rfl rfl rfl (ef_alloc (cs := [.int .i64 0, .int .i64 0]) (z := .agg #[.int .i64 0, .int .i64 0]) rfl (by kernel_rfl) rfl) ?_
  rintro _ _ ⟨g7, rfl, rfl⟩
  refine wl_store rfl rfl (es_at0 (es_storeN 0 rfl rfl rfl rfl (by kernel_rfl) rfl rfl)) ?_
  refine wl_nil ?_
  refine at_keep (Keep.cons 0 rfl (Keep.cons 1 rfl (Keep.cons 4 rfl (Keep.cons 5 rfl (Keep.cons 6 rfl (Keep.cons 7 rfl (Keep.cons 13 rfl Keep.nil))))))) ?_
  refine at_seq ?_
  refine at_seq ?_
  refine at_region ?_
  refine wl_read rfl rfl rfl (yl_move rfl rfl) ?_
  refine wl_read rfl rfl rfl ((yp_lss rfl rfl rfl).2 (by omega)) ?_
  refine wl_read rfl rfl rfl (yl_move rfl rfl) ?_
  refine wl_read rfl rfl rfl (yl_move rfl rfl) ?_
  refine wl_read rfl rfl rfl ((yp_gtr rfl rfl rfl).2 (by omega)) ?_
  refine wl_read rfl rfl rfl (yl_pickF rfl rfl rfl) ?_
  refine wl_read rfl rfl rfl (yl_move rfl rfl) ?_
  refine wl_read rfl rfl rfl (yl_move rfl rfl) ?_
  refine wl_read rfl rfl rfl (yl_len rfl rfl Try.underlying30) ?_
  refine wl_read rfl rfl rfl (yl_fieldB rfl rfl Try.underlying58 rfl (by kernel_rfl) rfl) ?_
  refine wl_read rfl rfl rfl (yl_load rfl rfl Try.underlying3 rfl (CellAt.bk 0 rfl rfl)) ?_
  refine wl_read rfl rfl rfl (yl_sub rfl rfl rfl (w64 (by omega) (by omega))) ?_
  refine wl_read rfl rfl rfl ((yp_lss rfl rfl rfl).2 (by omega)) ?_
  refine wl_read rfl rfl rfl (yl_pickF rfl rfl rfl) ?_
  refine wl_nil ?_
  refine at_keep (Keep.cons 0 rfl (Keep.cons 1 rfl (Keep.cons 4 rfl (Keep.cons 5 rfl (Keep.cons 6 rfl (Keep.cons 7 rfl (Keep.cons 13 rfl (Keep.cons 48 rfl Keep.nil)))))))) ?_
  refine at_false rfl ?_
  refine at_skip ?_
  refine at_seq ?_
  have hrl : (rec1 (bs.drop p)).length = nn (bs.drop p) := by unfold rec1; rw [List.length_take, List.length_drop, hdl]; omega
  refine at_region ?_
  refine wl_read rfl rfl rfl (yl_move rfl rfl) ?_
  refine wl_read rfl rfl rfl (yl_fieldB rfl rfl Try.underlying58 rfl (by kernel_rfl) rfl) ?_
  refine wl_read rfl rfl rfl (yl_load rfl rfl Try.underlying3 rfl (CellAt.bk 0 rfl rfl)) ?_
  refine wl_read rfl rfl rfl (yl_fieldB rfl rfl Try.underlying58 rfl (by kernel_rfl) rfl) ?_
  refine wl_read rfl rfl rfl (yl_load rfl rfl Try.underlying3 rfl (CellAt.bk 0 rfl rfl)) ?_
  refine wl_read rfl rfl rfl (yl_sliceLH (xs := bs) (j := p + 2) (j2 := p + 2 + nn (bs.drop p)) rfl rfl rfl rfl (by omega) (by omega) (by omega) (by omega) hcap Try.underlying30 (by kernel_rfl) rfl) ?_
  refine wl_call rfl rfl rfl (en_call rfl rfl) (sum_fn ((bs.take (p + 2 + nn (bs.drop p))).drop (p + 2)) _ _ _ _ ((((hR.cons _).cons _).take _).drop _ (by rw [List.length_take]; omega)) (by rw [cut_rec bs p _ rfl, hrl]; omega)) ?_
  rintro _ _ ⟨rfl, rfl⟩
  rw [cut_rec bs p _ rfl]
  refine wl_read rfl rfl rfl (yl_assign rfl rfl) ?_
  refine wl_nil ?_
  refine at_keep (Keep.cons 0 rfl (Keep.cons 1 rfl (Keep.cons 4 rfl (Keep.cons 5 rfl (Keep.cons 6 rfl (Keep.cons 7 rfl (Keep.cons 8 rfl (Keep.cons 13 rfl (Keep.cons 48 rfl Keep.nil))))))))) ?_
  refine at_seq ?_
  refine at_heap (fun _ hw => hw.front1) ?_
  have hcr := crc_lt (rec1 (bs.drop p))
  have hsl : ((bs.take (p + 2 + nn (bs.drop p) + 4)).drop (p + 2 + nn (bs.drop p))).length = 4 := by rw [List.length_drop, List.length_take]; omega
  refine at_draw1 (.fl 0 (.fl 1 (.fl 2 (.fl 3 (.fl 4 (.fl 5 (.fl 6 (.fl 7 (.fl 8 (.fl 9 (.fl 10 (.fl 11 (.fl 12 (.fl 13 (.fl 14 (.fl 15 (.fl 16 (.fl 17 (.fl 18 (.ef 19 (.ef 20 (.ef 21 (.fl 22 .nil))))))))))))))))))))))) (by kernel_rfl) (by kernel_rfl) ?_
  refine wt_read rfl rfl rfl rfl (yl_loadBk 0 rfl rfl rfl Try.underlying58 rfl (by kernel_rfl)) ?_
  refine wt_read rfl rfl rfl rfl (yl_move rfl rfl) ?_
  refine wt_read rfl rfl rfl rfl (yl_fieldB rfl rfl Try.underlying58 rfl (by kernel_rfl) rfl) ?_
  refine wt_read rfl rfl rfl rfl (yl_load rfl rfl Try.underlying3 rfl (CellAt.bk 0 rfl rfl)) ?_
  refine wt_read rfl rfl rfl rfl (yl_fieldB rfl rfl Try.underlying58 rfl (by kernel_rfl) rfl) ?_
  refine wt_read rfl rfl rfl rfl (yl_load rfl rfl Try.underlying3 rfl (CellAt.bk 0 rfl rfl)) ?_
  refine wt_read rfl rfl rfl rfl (yl_add rfl rfl rfl (w64 (by omega) (by omega))) ?_
  refine wt_read rfl rfl rfl rfl (yl_sliceLH (xs := bs) (j := p + 2 + nn (bs.drop p)) (j2 := p + 2 + nn (bs.drop p) + 4) rfl rfl rfl rfl (by omega) (by omega) (by omega) (by omega) hcap Try.underlying30 (by kernel_rfl) rfl) ?_
  refine wt_read rfl rfl rfl rfl (yl_move rfl rfl) ?_
  refine wt_read rfl rfl rfl rfl (yl_shr (r := ((crc (rec1 (bs.drop p)) / 16777216 : Nat) : Int)) rfl rfl rfl (by decide) (by decide) (shr_nat _ 24)) ?_
  refine wt_read rfl rfl rfl rfl (yl_conv rfl rfl rfl Try.underlying5 (wrap8 _)) ?_
  refine wt_read rfl rfl rfl rfl (yl_move rfl rfl) ?_
  refine wt_read rfl rfl rfl rfl (yl_shr (r := ((crc (rec1 (bs.drop p)) / 65536 : Nat) : Int)) rfl rfl rfl (by decide) (by decide) (shr_nat _ 16)) ?_
  refine wt_read rfl rfl rfl rfl (yl_conv rfl rfl rfl Try.underlying5 (wrap8 _)) ?_
  refine wt_read rfl rfl rfl rfl (yl_move rfl rfl) ?_
  refine wt_read rfl rfl rfl rfl (yl_shr (r := ((crc (rec1 (bs.drop p)) / 256 : Nat) : Int)) rfl rfl rfl (by decide) (by decide) (shr_nat _ 8)) ?_
  refine wt_read rfl rfl rfl rfl (yl_conv rfl rfl rfl Try.underlying5 (wrap8 _)) ?_
  refine wt_read rfl rfl rfl rfl (yl_move rfl rfl) ?_
  refine wt_read rfl rfl rfl rfl (yl_conv rfl rfl rfl Try.underlying5 (wrap8 _)) ?_
  refine wt_eff rfl rfl rfl rfl (ef_buildSlice (e := 5) [b8 (crc (rec1 (bs.drop p)) / 16777216), b8 (crc (rec1 (bs.drop p)) / 65536), b8 (crc (rec1 (bs.drop p)) / 256), b8 (crc (rec1 (bs.drop p)))] rfl rfl (fun _ => by kernel_rfl) rfl rfl) ?_
  rintro _ _ ⟨T8_19, rfl, rfl⟩
  refine ⟨⟨[_, _], rfl⟩, ?_⟩
  refine wt_call rfl rfl rfl rfl (en_call rfl rfl) (equal_fn ((bs.take (p + 2 + nn (bs.drop p) + 4)).drop (p + 2 + nn (bs.drop p))) (be4 (crc (rec1 (bs.drop p)))) _ _ _ _ _ _ (((((hR.cons _).cons _).cons _).take _).drop _ (by rw [List.length_take]; omega)) (Rd.of_sl (xs := be4 (crc (rec1 (bs.drop p)))) 0 rfl)) ?_
  rintro _ _ ⟨rfl, rfl⟩
  refine ⟨⟨[_, _], rfl⟩, ?_⟩
  rw [decide_eq_true heq]
  refine wt_store rfl rfl rfl (es_at1 (es_storeN 1 rfl rfl rfl rfl (by kernel_rfl) rfl rfl)) ⟨[_, _], rfl⟩ ?_
  refine wt_read rfl rfl rfl rfl (yl_assign rfl rfl) ?_
  refine wt_nil ?_
  refine at_keep (Keep.cons 0 rfl (Keep.cons 1 rfl (Keep.cons 4 rfl (Keep.cons 5 rfl (Keep.cons 6 rfl (Keep.cons 7 rfl (Keep.cons 8 rfl (Keep.cons 13 rfl (Keep.cons 48 rfl Keep.nil))))))))) ?_
  refine at_retH (fun _ hw => hw.tail.tail.tail) Try.func35 (resC1 1 rfl rfl rfl Try.underlying58 rfl (by kernel_rfl) rfl) ?_
  exact ⟨rfl, rfl⟩
theorem frame_bad (bs : List UInt8) (A : Option Addr) (c p : Nat) (b : World) (H : List Asr) (hR : Rd H A bs) (hcap : bs.length ≤ c) (hbig : bs.length ≤ 140737488351232) (hp : p ≤ bs.length) (hg : ¬ good (bs.drop p)) : Fn Try.prog 35 [.slice A bs.length c, .int .i64 (p : Int)] b H (fun v H' => ∃ x y, v = .tuple #[.agg #[.int .i64 x, .int .i64 y], .bool false] ∧ H = H') := by
  have hdl : (bs.drop p).length = bs.length - p := List.length_drop
  have hnn := nn_drop bs p
  refine fn_of_at (by kernel_rfl) Try.func35 rfl Try.ntmps35 rfl rfl ?_
  refine at_seq ?_
  refine at_region ?_
  refine wl_eff rfl rfl rfl (ef_alloc (cs := [.int .i64 0, .int .i64 0]) (z := .agg #[.int .i64 0, .int .i64 0]) rfl (by kernel_rfl) rfl) ?_
  rintro _ _ ⟨g4, rfl, rfl⟩
  refine wl_read rfl rfl rfl (yl_assign rfl rfl) ?_
  refine wl_nil ?_
  refine at_keep (Keep.cons 0 rfl (Keep.cons 1 rfl (Keep.cons 4 rfl (Keep.cons 5 rfl Keep.nil)))) ?_
  refine at_seq ?_
  refine at_seq ?_
  refine at_region ?_
  refine wl_read rfl rfl rfl (yl_move rfl rfl) ?_
  refine wl_read rfl rfl rfl (yl_len rfl rfl Try.underlying30) ?_
  refine wl_read rfl rfl rfl (yl_move rfl rfl) ?_
  refine wl_read rfl rfl rfl (yl_sub rfl rfl rfl (w64 (by omega) (by omega))) ?_
  refine wl_split rfl rfl rfl (yp_lss rfl rfl rfl) ?_ ?_
  · intro h1_4
    refine wl_nil ?_
    refine at_keep (Keep.cons 0 rfl (Keep.cons 1 rfl (Keep.cons 4 rfl (Keep.cons 5 rfl (Keep.cons 13 rfl Keep.nil))))) ?_
    refine at_true rfl ?_
    refine at_seq ?_
    refine at_region ?_
    refine wl_read rfl rfl rfl (yl_build (cs := [.int .i64 0, .int .i64 0]) rfl rfl (fun _ => by kernel_rfl)) ?_
    refine wl_store rfl rfl (es_at0 (es_storeN 0 rfl rfl rfl rfl (by kernel_rfl) rfl rfl)) ?_
    refine wl_read rfl rfl rfl (yl_assign rfl rfl) ?_
    refine wl_nil ?_
    refine at_keep (Keep.cons 0 rfl (Keep.cons 1 rfl (Keep.cons 4 rfl (Keep.cons 5 rfl (Keep.cons 13 rfl Keep.nil))))) ?_
    refine at_retH (fun _ hw => hw.tail) Try.func35 (resC1 0 rfl rfl rfl Try.underlying58 rfl (by kernel_rfl) rfl) ?_
    exact ⟨_, _, rfl, rfl⟩
  · intro h1_4
    refine wl_nil ?_
    refine at_keep (Keep.cons 0 rfl (Keep.cons 1 rfl (Keep.cons 4 rfl (Keep.cons 5 rfl (Keep.cons 13 rfl Keep.nil))))) ?_
    refine at_false rfl ?_
    refine at_skip ?_
    refine at_seq ?_
    have hj0 : p < bs.length := by omega
    have hj1 : p + 1 < bs.length := by omega
    have hb0 := (at_ bs p).toNat_lt
    have hb1 := (at_ bs (p + 1)).toNat_lt
    refine at_draw0 (.fl 0 (.fl 1 (.fl 2 (.fl 3 (.fl 4 (.fl 5 (.fl 6 (.fl 7 (.fl 8 (.fl 9 (.fl 10 (.fl 11 (.fl 12 (.fl 13 .nil)))))))))))))) (by kernel_rfl) (by kernel_rfl) ?_
    refine wt_read rfl rfl rfl rfl (yl_move rfl rfl) ?_
    refine wt_read rfl rfl rfl rfl (yl_move rfl rfl) ?_
    refine wt_read rfl rfl rfl rfl (yl_index rfl rfl rfl (hR.cons _) (at_some hj0) rfl rfl Try.underlying30 (by kernel_rfl) rfl) ?_
    refine wt_read rfl rfl rfl rfl (yl_load rfl rfl Try.underlying5 rfl ((hR.cons _).cell2 (at_some hj0) (i := 0) rfl)) ?_
    refine wt_read rfl rfl rfl rfl (yl_conv rfl rfl rfl Try.underlying3 (w64 (by omega) (by omega))) ?_
    refine wt_read rfl rfl rfl rfl (yl_shl (r := (((at_ bs p).toNat * 256 : Nat) : Int)) rfl rfl rfl (by decide) (by decide) (by show IntKind.i64.wrap ((((at_ bs p).toNat : Nat) : Int) * 256) = _; rw [w64 (by omega) (by omega)]; omega)) ?_
    refine wt_read rfl rfl rfl rfl (yl_move rfl rfl) ?_
    refine wt_read rfl rfl rfl rfl (yl_move rfl rfl) ?_
    refine wt_read rfl rfl rfl rfl (yl_add rfl rfl rfl (w64 (by omega) (by omega))) ?_
    refine wt_read rfl rfl rfl rfl (yl_index rfl rfl rfl (hR.cons _) (at_some hj1) (by omega) rfl Try.underlying30 (by kernel_rfl) rfl) ?_
    refine wt_read rfl rfl rfl rfl (yl_load rfl rfl Try.underlying5 rfl ((hR.cons _).cell2 (at_some hj1) (i := 0) rfl)) ?_
    refine wt_read rfl rfl rfl rfl (yl_conv rfl rfl rfl Try.underlying3 (w64 (by omega) (by omega))) ?_
    refine wt_read rfl rfl rfl rfl (yl_or (r := ((nn (bs.drop p) : Nat) : Int)) rfl rfl rfl (by rw [or64_push _ _ (by omega) hb1, hnn])) ?_
    refine wt_read rfl rfl rfl rfl (yl_assign rfl rfl) ?_
    refine wt_nil ?_
    refine at_keep (Keep.cons 0 rfl (Keep.cons 1 rfl (Keep.cons 4 rfl (Keep.cons 5 rfl (Keep.cons 6 rfl (Keep.cons 13 rfl Keep.nil)))))) ?_
    refine at_seq ?_
    refine at_region ?_
    refine wl_read rfl rfl rfl (yl_move rfl rfl) ?_
    refine wl_read rfl rfl rfl (yl_add rfl rfl rfl (w64 (by omega) (by omega))) ?_
    refine wl_read rfl rfl rfl (yl_move rfl rfl) ?_
    refine wl_read rfl rfl rfl (yl_add rfl rfl rfl (w64 (by omega) (by omega))) ?_
    refine wl_read rfl rfl rfl (yl_move rfl rfl) ?_
    refine wl_read rfl rfl rfl (yl_add rfl rfl rfl (w64 (by omega) (by omega))) ?_
    refine wl_read rfl rfl rfl (yl_build (cs := [.int .i64 ((p : Int) + 2), .int .i64 ((p : Int) + 2 + (nn (bs.drop p) : Int))]) rfl rfl (fun _ => by kernel_rfl)) ?_
    refine wl_eff rfl rfl rfl (ef_alloc (cs := [.int .i64 0, .int .i64 0]) (z := .agg #[.int .i64 0, .int .i64 0]) rfl (by kernel_rfl) rfl) ?_
    rintro _ _ ⟨g7, rfl, rfl⟩
    refine wl_store rfl rfl (es_at0 (es_storeN 0 rfl rfl rfl rfl (by kernel_rfl) rfl rfl)) ?_
    refine wl_nil ?_
    refine at_keep (Keep.cons 0 rfl (Keep.cons 1 rfl (Keep.cons 4 rfl (Keep.cons 5 rfl (Keep.cons 6 rfl (Keep.cons 7 rfl (Keep.cons 13 rfl Keep.nil))))))) ?_
    refine at_seq ?_
    refine at_seq ?_
    refine at_region ?_
    refine wl_read rfl rfl rfl (yl_move rfl rfl) ?_
    refine wl_split rfl rfl rfl (yp_lss rfl rfl rfl) ?_ ?_
    · intro h5_1
      refine wl_read rfl rfl rfl (yl_move rfl rfl) ?_
      refine wl_skip rfl rfl rfl ?_
      refine wl_skip rfl rfl rfl ?_
      refine wl_read rfl rfl rfl (yl_pickT rfl rfl rfl) ?_
      refine wl_read rfl rfl rfl (yl_move rfl rfl) ?_
      refine wl_skip rfl rfl rfl ?_
      refine wl_skip rfl rfl rfl ?_
      refine wl_skip rfl rfl rfl ?_
      refine wl_skip rfl rfl rfl ?_
      refine wl_skip rfl rfl rfl ?_
      refine wl_skip rfl rfl rfl ?_
      refine wl_read rfl rfl rfl (yl_pickT rfl rfl rfl) ?_
      refine wl_nil ?_
      refine at_keep (Keep.cons 0 rfl (Keep.cons 1 rfl (Keep.cons 4 rfl (Keep.cons 5 rfl (Keep.cons 6 rfl (Keep.cons 7 rfl (Keep.cons 13 rfl (Keep.cons 48 rfl Keep.nil)))))))) ?_
      refine at_true rfl ?_
      refine at_seq ?_
      refine at_region ?_
      refine wl_read rfl rfl rfl (yl_build (cs := [.int .i64 0, .int .i64 0]) rfl rfl (fun _ => by kernel_rfl)) ?_
      refine wl_store rfl rfl (es_at1 (es_storeN 1 rfl rfl rfl rfl (by kernel_rfl) rfl rfl)) ?_
      refine wl_read rfl rfl rfl (yl_assign rfl rfl) ?_
      refine wl_nil ?_
      refine at_keep (Keep.cons 0 rfl (Keep.cons 1 rfl (Keep.cons 4 rfl (Keep.cons 5 rfl (Keep.cons 6 rfl (Keep.cons 7 rfl (Keep.cons 13 rfl (Keep.cons 48 rfl Keep.nil)))))))) ?_
      refine at_retH (fun _ hw => hw.tail.tail) Try.func35 (resC1 1 rfl rfl rfl Try.underlying58 rfl (by kernel_rfl) rfl) ?_
      exact ⟨_, _, rfl, rfl⟩
    · intro h5_1
      refine wl_read rfl rfl rfl (yl_move rfl rfl) ?_
      refine wl_read rfl rfl rfl (yl_move rfl rfl) ?_
      refine wl_split rfl rfl rfl (yp_gtr rfl rfl rfl) ?_ ?_
      · intro h5_4
        refine wl_read rfl rfl rfl (yl_pickF rfl rfl rfl) ?_
        refine wl_read rfl rfl rfl (yl_move rfl rfl) ?_
        refine wl_skip rfl rfl rfl ?_
        refine wl_skip rfl rfl rfl ?_
        refine wl_skip rfl rfl rfl ?_
        refine wl_skip rfl rfl rfl ?_
        refine wl_skip rfl rfl rfl ?_
        refine wl_skip rfl rfl rfl ?_
        refine wl_read rfl rfl rfl (yl_pickT rfl rfl rfl) ?_
        refine wl_nil ?_
        refine at_keep (Keep.cons 0 rfl (Keep.cons 1 rfl (Keep.cons 4 rfl (Keep.cons 5 rfl (Keep.cons 6 rfl (Keep.cons 7 rfl (Keep.cons 13 rfl (Keep.cons 48 rfl Keep.nil)))))))) ?_
        refine at_true rfl ?_
        refine at_seq ?_
        refine at_region ?_
        refine wl_read rfl rfl rfl (yl_build (cs := [.int .i64 0, .int .i64 0]) rfl rfl (fun _ => by kernel_rfl)) ?_
        refine wl_store rfl rfl (es_at1 (es_storeN 1 rfl rfl rfl rfl (by kernel_rfl) rfl rfl)) ?_
        refine wl_read rfl rfl rfl (yl_assign rfl rfl) ?_
        refine wl_nil ?_
        refine at_keep (Keep.cons 0 rfl (Keep.cons 1 rfl (Keep.cons 4 rfl (Keep.cons 5 rfl (Keep.cons 6 rfl (Keep.cons 7 rfl (Keep.cons 13 rfl (Keep.cons 48 rfl Keep.nil)))))))) ?_
        refine at_retH (fun _ hw => hw.tail.tail) Try.func35 (resC1 1 rfl rfl rfl Try.underlying58 rfl (by kernel_rfl) rfl) ?_
        exact ⟨_, _, rfl, rfl⟩
      · intro h5_4
        refine wl_read rfl rfl rfl (yl_pickF rfl rfl rfl) ?_
        refine wl_read rfl rfl rfl (yl_move rfl rfl) ?_
        refine wl_read rfl rfl rfl (yl_move rfl rfl) ?_
        refine wl_read rfl rfl rfl (yl_len rfl rfl Try.underlying30) ?_
        refine wl_read rfl rfl rfl (yl_fieldB rfl rfl Try.underlying58 rfl (by kernel_rfl) rfl) ?_
        refine wl_read rfl rfl rfl (yl_load rfl rfl Try.underlying3 rfl (CellAt.bk 0 rfl rfl)) ?_
        refine wl_read rfl rfl rfl (yl_sub rfl rfl rfl (w64 (by omega) (by omega))) ?_
        refine wl_split rfl rfl rfl (yp_lss rfl rfl rfl) ?_ ?_
        · intro h5_12
          refine wl_read rfl rfl rfl (yl_pickF rfl rfl rfl) ?_
          refine wl_nil ?_
          refine at_keep (Keep.cons 0 rfl (Keep.cons 1 rfl (Keep.cons 4 rfl (Keep.cons 5 rfl (Keep.cons 6 rfl (Keep.cons 7 rfl (Keep.cons 13 rfl (Keep.cons 48 rfl Keep.nil)))))))) ?_
          refine at_true rfl ?_
          refine at_seq ?_
          refine at_region ?_
          refine wl_read rfl rfl rfl (yl_build (cs := [.int .i64 0, .int .i64 0]) rfl rfl (fun _ => by kernel_rfl)) ?_
          refine wl_store rfl rfl (es_at1 (es_storeN 1 rfl rfl rfl rfl (by kernel_rfl) rfl rfl)) ?_
          refine wl_read rfl rfl rfl (yl_assign rfl rfl) ?_
          refine wl_nil ?_
          refine at_keep (Keep.cons 0 rfl (Keep.cons 1 rfl (Keep.cons 4 rfl (Keep.cons 5 rfl (Keep.cons 6 rfl (Keep.cons 7 rfl (Keep.cons 13 rfl (Keep.cons 48 rfl Keep.nil)))))))) ?_
          refine at_retH (fun _ hw => hw.tail.tail) Try.func35 (resC1 1 rfl rfl rfl Try.underlying58 rfl (by kernel_rfl) rfl) ?_
          exact ⟨_, _, rfl, rfl⟩
        · intro h5_12
          refine wl_read rfl rfl rfl (yl_pickF rfl rfl rfl) ?_
          refine wl_nil ?_
          refine at_keep (Keep.cons 0 rfl (Keep.cons 1 rfl (Keep.cons 4 rfl (Keep.cons 5 rfl (Keep.cons 6 rfl (Keep.cons 7 rfl (Keep.cons 13 rfl (Keep.cons 48 rfl Keep.nil)))))))) ?_
          refine at_false rfl ?_
          refine at_skip ?_
          refine at_seq ?_
          have hrl : (rec1 (bs.drop p)).length = nn (bs.drop p) := by unfold rec1; rw [List.length_take, List.length_drop, hdl]; omega
          refine at_region ?_
          refine wl_read rfl rfl rfl (yl_move rfl rfl) ?_
          refine wl_read rfl rfl rfl (yl_fieldB rfl rfl Try.underlying58 rfl (by kernel_rfl) rfl) ?_
          refine wl_read rfl rfl rfl (yl_load rfl rfl Try.underlying3 rfl (CellAt.bk 0 rfl rfl)) ?_
          refine wl_read rfl rfl rfl (yl_fieldB rfl rfl Try.underlying58 rfl (by kernel_rfl) rfl) ?_
          refine wl_read rfl rfl rfl (yl_load rfl rfl Try.underlying3 rfl (CellAt.bk 0 rfl rfl)) ?_
          refine wl_read rfl rfl rfl (yl_sliceLH (xs := bs) (j := p + 2) (j2 := p + 2 + nn (bs.drop p)) rfl rfl rfl rfl (by omega) (by omega) (by omega) (by omega) hcap Try.underlying30 (by kernel_rfl) rfl) ?_
          refine wl_call rfl rfl rfl (en_call rfl rfl) (sum_fn ((bs.take (p + 2 + nn (bs.drop p))).drop (p + 2)) _ _ _ _ ((((hR.cons _).cons _).take _).drop _ (by rw [List.length_take]; omega)) (by rw [cut_rec bs p _ rfl, hrl]; omega)) ?_
          rintro _ _ ⟨rfl, rfl⟩
          rw [cut_rec bs p _ rfl]
          refine wl_read rfl rfl rfl (yl_assign rfl rfl) ?_
          refine wl_nil ?_
          refine at_keep (Keep.cons 0 rfl (Keep.cons 1 rfl (Keep.cons 4 rfl (Keep.cons 5 rfl (Keep.cons 6 rfl (Keep.cons 7 rfl (Keep.cons 8 rfl (Keep.cons 13 rfl (Keep.cons 48 rfl Keep.nil))))))))) ?_
          refine at_seq ?_
          refine at_heap (fun _ hw => hw.front1) ?_
          have hcr := crc_lt (rec1 (bs.drop p))
          have hsl : ((bs.take (p + 2 + nn (bs.drop p) + 4)).drop (p + 2 + nn (bs.drop p))).length = 4 := by rw [List.length_drop, List.length_take]; omega
          have heq : ¬ (bs.take (p + 2 + nn (bs.drop p) + 4)).drop (p + 2 + nn (bs.drop p)) = be4 (crc (rec1 (bs.drop p))) := fun he => hg ⟨by omega, by omega, by omega, by rw [cut_sum] at he; exact he⟩
          refine at_draw1 (.fl 0 (.fl 1 (.fl 2 (.fl 3 (.fl 4 (.fl 5 (.fl 6 (.fl 7 (.fl 8 (.fl 9 (.fl 10 (.fl 11 (.fl 12 (.fl 13 (.fl 14 (.fl 15 (.fl 16 (.fl 17 (.fl 18 (.ef 19 (.ef 20 (.ef 21 (.fl 22 .nil))))))))))))))))))))))) (by kernel_rfl) (by kernel_rfl) ?_
          refine wt_read rfl rfl rfl rfl (yl_loadBk 0 rfl rfl rfl Try.underlying58 rfl (by kernel_rfl)) ?_
          refine wt_read rfl rfl rfl rfl (yl_move rfl rfl) ?_
          refine wt_read rfl rfl rfl rfl (yl_fieldB rfl rfl Try.underlying58 rfl (by kernel_rfl) rfl) ?_
          refine wt_read rfl rfl rfl rfl (yl_load rfl rfl Try.underlying3 rfl (CellAt.bk 0 rfl rfl)) ?_
          refine wt_read rfl rfl rfl rfl (yl_fieldB rfl rfl Try.underlying58 rfl (by kernel_rfl) rfl) ?_
          refine wt_read rfl rfl rfl rfl (yl_load rfl rfl Try.underlying3 rfl (CellAt.bk 0 rfl rfl)) ?_
          refine wt_read rfl rfl rfl rfl (yl_add rfl rfl rfl (w64 (by omega) (by omega))) ?_
          refine wt_read rfl rfl rfl rfl (yl_sliceLH (xs := bs) (j := p + 2 + nn (bs.drop p)) (j2 := p + 2 + nn (bs.drop p) + 4) rfl rfl rfl rfl (by omega) (by omega) (by omega) (by omega) hcap Try.underlying30 (by kernel_rfl) rfl) ?_
          refine wt_read rfl rfl rfl rfl (yl_move rfl rfl) ?_
          refine wt_read rfl rfl rfl rfl (yl_shr (r := ((crc (rec1 (bs.drop p)) / 16777216 : Nat) : Int)) rfl rfl rfl (by decide) (by decide) (shr_nat _ 24)) ?_
          refine wt_read rfl rfl rfl rfl (yl_conv rfl rfl rfl Try.underlying5 (wrap8 _)) ?_
          refine wt_read rfl rfl rfl rfl (yl_move rfl rfl) ?_
          refine wt_read rfl rfl rfl rfl (yl_shr (r := ((crc (rec1 (bs.drop p)) / 65536 : Nat) : Int)) rfl rfl rfl (by decide) (by decide) (shr_nat _ 16)) ?_
          refine wt_read rfl rfl rfl rfl (yl_conv rfl rfl rfl Try.underlying5 (wrap8 _)) ?_
          refine wt_read rfl rfl rfl rfl (yl_move rfl rfl) ?_
          refine wt_read rfl rfl rfl rfl (yl_shr (r := ((crc (rec1 (bs.drop p)) / 256 : Nat) : Int)) rfl rfl rfl (by decide) (by decide) (shr_nat _ 8)) ?_
          refine wt_read rfl rfl rfl rfl (yl_conv rfl rfl rfl Try.underlying5 (wrap8 _)) ?_
          refine wt_read rfl rfl rfl rfl (yl_move rfl rfl) ?_
          refine wt_read rfl rfl rfl rfl (yl_conv rfl rfl rfl Try.underlying5 (wrap8 _)) ?_
          refine wt_eff rfl rfl rfl rfl (ef_buildSlice (e := 5) [b8 (crc (rec1 (bs.drop p)) / 16777216), b8 (crc (rec1 (bs.drop p)) / 65536), b8 (crc (rec1 (bs.drop p)) / 256), b8 (crc (rec1 (bs.drop p)))] rfl rfl (fun _ => by kernel_rfl) rfl rfl) ?_
          rintro _ _ ⟨T8_19, rfl, rfl⟩
          refine ⟨⟨[_, _], rfl⟩, ?_⟩
          refine wt_call rfl rfl rfl rfl (en_call rfl rfl) (equal_fn ((bs.take (p + 2 + nn (bs.drop p) + 4)).drop (p + 2 + nn (bs.drop p))) (be4 (crc (rec1 (bs.drop p)))) _ _ _ _ _ _ (((((hR.cons _).cons _).cons _).take _).drop _ (by rw [List.length_take]; omega)) (Rd.of_sl (xs := be4 (crc (rec1 (bs.drop p)))) 0 rfl)) ?_
          rintro _ _ ⟨rfl, rfl⟩
          refine ⟨⟨[_, _], rfl⟩, ?_⟩
          rw [decide_eq_false heq]
          refine wt_store rfl rfl rfl (es_at1 (es_storeN 1 rfl rfl rfl rfl (by kernel_rfl) rfl rfl)) ⟨[_, _], rfl⟩ ?_
          refine wt_read rfl rfl rfl rfl (yl_assign rfl rfl) ?_
          refine wt_nil ?_
          refine at_keep (Keep.cons 0 rfl (Keep.cons 1 rfl (Keep.cons 4 rfl (Keep.cons 5 rfl (Keep.cons 6 rfl (Keep.cons 7 rfl (Keep.cons 8 rfl (Keep.cons 13 rfl (Keep.cons 48 rfl Keep.nil))))))))) ?_
          refine at_retH (fun _ hw => hw.tail.tail.tail) Try.func35 (resC1 1 rfl rfl rfl Try.underlying58 rfl (by kernel_rfl) rfl) ?_
          exact ⟨_, _, rfl, rfl⟩
theorem frame_fn (bs : List UInt8) (A : Option Addr) (c p : Nat) (b : World) (H : List Asr) (hR : Rd H A bs) (hcap : bs.length ≤ c) (hbig : bs.length ≤ 140737488351232) (hp : p ≤ bs.length) : Fn Try.prog 35 [.slice A bs.length c, .int .i64 (p : Int)] b H (fun v H' => (good (bs.drop p) ∧ v = .tuple #[.agg #[.int .i64 ((p : Int) + 2), .int .i64 ((p : Int) + 2 + (nn (bs.drop p) : Int))], .bool true] ∧ H = H') ∨ (¬ good (bs.drop p) ∧ ∃ x y, v = .tuple #[.agg #[.int .i64 x, .int .i64 y], .bool false] ∧ H = H')) := by
  rcases Classical.em (good (bs.drop p)) with hg | hg
  · exact (frame_good bs A c p b H hR hcap hbig hp hg).mono (by rintro v H' ⟨h1, h2⟩; exact .inl ⟨hg, h1, h2⟩)
  · exact (frame_bad bs A c p b H hR hcap hbig hp hg).mono (by rintro v H' ⟨x, y, h1, h2⟩; exact .inr ⟨hg, x, y, h1, h2⟩)

theorem new_raw (b : World) (H : List Asr) : Fn Try.prog 29 [] b H (fun v H' => ∃ g, v = .pointer (some ⟨g, 0, none⟩) ∧ H' = Bk g 55 [.slice none 0 0, .int .i64 0, .slice none 0 0] :: H) := by
  refine fn_of_at (by kernel_rfl) Try.func29 rfl Try.ntmps29 rfl rfl ?_
  refine at_seq ?_
  refine at_region ?_
  refine wl_read rfl rfl rfl (yl_assign rfl rfl) ?_
  refine wl_nil ?_
  refine at_keep (Keep.cons 0 rfl Keep.nil) ?_
  refine at_seq ?_
  refine at_region ?_
  refine wl_read rfl rfl rfl (yl_build (cs := [.slice none 0 0, .int .i64 0, .slice none 0 0]) rfl rfl (fun _ => by kernel_rfl)) ?_
  refine wl_eff rfl rfl rfl (ef_box rfl rfl rfl) ?_
  rintro _ _ ⟨g1_1, rfl, rfl⟩
  refine wl_read rfl rfl rfl (yl_assign rfl rfl) ?_
  refine wl_nil ?_
  refine at_keep (Keep.cons 0 rfl Keep.nil) ?_
  refine at_ret Try.func29 (res1 rfl rfl) ?_
  exact ⟨g1_1, rfl, rfl⟩
theorem open_fn (bs : List UInt8) (A : Option Addr) (c : Nat) (b : World) (H : List Asr) (hR : Rd H A bs) (hcap : bs.length ≤ c) (hbig : bs.length ≤ 140737488351232) : Fn Try.prog 26 [.slice A bs.length c] b H
    (fun v H' => ∃ g, v = .pointer (some ⟨g, 0, none⟩) ∧ H' = Jn g (prs 20000 bs) (jenc (prs 20000 bs)).length :: H) := by
  refine fn_of_at (by kernel_rfl) Try.func26 rfl Try.ntmps26 rfl rfl ?_
  refine at_seq ?_
  refine at_region ?_
  refine wl_read rfl rfl rfl (yl_assign rfl rfl) ?_
  refine wl_nil ?_
  refine at_keep (Keep.cons 0 rfl (Keep.cons 2 rfl Keep.nil)) ?_
  refine at_seq ?_
  refine at_region ?_
  refine wl_call rfl rfl rfl (en_call rfl rfl) (new_raw _ _) ?_
  rintro _ _ ⟨g, rfl, rfl⟩
  refine wl_read rfl rfl rfl (yl_assign rfl rfl) ?_
  refine wl_nil ?_
  refine at_keep (Keep.cons 0 rfl (Keep.cons 2 rfl (Keep.cons 3 rfl Keep.nil))) ?_
  refine at_seq ?_
  refine at_block ?_
  refine at_keep (L' := (fun (ms : List (List UInt8)) (A2 : Option Addr) (c2 : Nat) => [(0, .slice A bs.length c), (3, .pointer (some ⟨g, 0, none⟩))]) [] none 0) (Keep.consEq 0 rfl rfl (Keep.consEq 3 rfl rfl Keep.nil)) ?_
  refine at_heap (fun _ hw => ((hw.nilSl (α := Sp) 58).front1)) ?_
  refine at_loop3 (fun (ms : List (List UInt8)) (A2 : Option Addr) (c2 : Nat) => OI bs ms) (fun (ms : List (List UInt8)) (A2 : Option Addr) (c2 : Nat) => [(0, .slice A bs.length c), (3, .pointer (some ⟨g, 0, none⟩))]) (fun (ms : List (List UInt8)) (A2 : Option Addr) (c2 : Nat) => jnB g none [] 0 ((jenc ms).length : Nat) A2 (spans 0 ms) c2 :: Sl A2 c2 58 (spans 0 ms) :: H) (fun (ms : List (List UInt8)) (A2 : Option Addr) (c2 : Nat) => 20000 - ms.length) [] none 0 (OI.zero bs) ?_
  intro ms A2 c2 hI ih
  have hsl := spans_len ms 0
  refine at_seq ?_
  refine at_seq ?_
  refine at_region ?_
  refine wl_read rfl rfl rfl (yl_move rfl rfl) ?_
  refine wl_read rfl rfl rfl (yl_nilCheck rfl rfl) ?_
  refine wl_read rfl rfl rfl (yl_fieldB rfl rfl Try.underlying55 rfl (by kernel_rfl) rfl) ?_
  refine wl_read rfl rfl rfl (yl_load rfl rfl Try.underlying53 rfl (CellAt.bk 0 rfl rfl)) ?_
  refine wl_read rfl rfl rfl (yl_len rfl rfl Try.underlying53) ?_
  refine wl_split rfl rfl rfl (yp_lss rfl rfl rfl) ?_ ?_
  · intro h2_5
    refine wl_nil ?_
    refine at_keep (Keep.cons 0 rfl (Keep.cons 3 rfl (Keep.cons 12 rfl Keep.nil))) ?_
    refine at_true rfl ?_
    refine at_skip ?_
    refine at_block ?_
    refine at_seq ?_
    have hlt : ms.length < 20000 := by omega
    have hsz := hI.size
    have hle := hI.le
    refine at_region ?_
    refine wl_read rfl rfl rfl (yl_move rfl rfl) ?_
    refine wl_read rfl rfl rfl (yl_move rfl rfl) ?_
    refine wl_read rfl rfl rfl (yl_nilCheck rfl rfl) ?_
    refine wl_read rfl rfl rfl (yl_fieldB rfl rfl Try.underlying55 rfl (by kernel_rfl) rfl) ?_
    refine wl_read rfl rfl rfl (yl_load rfl rfl Try.underlying3 rfl (CellAt.bk 0 rfl rfl)) ?_
    refine wl_call rfl rfl rfl (en_call rfl rfl) (frame_fn bs A c (jenc ms).length _ _ ((hR.cons _).cons _) hcap hbig hle) ?_
    rintro _ _ (⟨hgd, rfl, rfl⟩ | ⟨hgd, x1, y1, rfl, rfl⟩)
    ·
      refine wl_read rfl rfl rfl (yl_move rfl rfl) ?_
      refine wl_read rfl rfl rfl (yl_extract rfl rfl rfl) ?_
      refine wl_read rfl rfl rfl (yl_extract rfl rfl rfl) ?_
      refine wl_eff rfl rfl rfl (ef_alloc (cs := [.int .i64 0, .int .i64 0]) (z := .agg #[.int .i64 0, .int .i64 0]) rfl (by kernel_rfl) rfl) ?_
      rintro _ _ ⟨ga, rfl, rfl⟩
      refine wl_store rfl rfl (es_at0 (es_storeN 0 rfl rfl rfl rfl (by kernel_rfl) rfl rfl)) ?_
      refine wl_read rfl rfl rfl (yl_assign rfl rfl) ?_
      refine wl_nil ?_
      refine at_keep (Keep.cons 0 rfl (Keep.cons 3 rfl (Keep.cons 4 rfl (Keep.cons 5 rfl (Keep.cons 12 rfl Keep.nil))))) ?_
      refine at_seq ?_
      refine at_seq ?_
      refine at_region ?_
      refine wl_read rfl rfl rfl (yl_move rfl rfl) ?_
      refine wl_read rfl rfl rfl (yl_notT rfl rfl) ?_
      refine wl_nil ?_
      refine at_keep (Keep.cons 0 rfl (Keep.cons 3 rfl (Keep.cons 4 rfl (Keep.cons 5 rfl (Keep.cons 12 rfl (Keep.cons 23 rfl Keep.nil)))))) ?_
      refine at_false rfl ?_
      refine at_skip ?_
      refine at_seq ?_
      refine at_heap (fun _ hw => hw.front1.front2) ?_
      have hrl := rec1_len hgd
      have hg3 := hgd.2.2.1
      rw [List.length_drop] at hg3
      have hg2 := hgd.2.1
      have hjl : (jenc (ms ++ [rec1 (bs.drop (jenc ms).length)])).length = (jenc ms).length + nn (bs.drop (jenc ms).length) + 6 := by rw [jenc_snoc, List.length_append, fr_length, hrl]; omega
      have e2 : spans 0 ms ++ [(⟨((jenc ms).length : Int) + 2, ((jenc ms).length : Int) + 2 + (nn (bs.drop (jenc ms).length) : Int)⟩ : Sp)] = spans 0 (ms ++ [rec1 (bs.drop (jenc ms).length)]) := by
        rw [spans_snoc]
        refine congrArg (fun z => spans 0 ms ++ [z]) ?_
        simp only [Sp.mk.injEq]
        omega
      refine at_draw2 (.fl 0 (.fl 1 (.fl 2 (.fl 3 (.fl 5 (.ef2 4 (.ef 6 (.ef 7 (.fl 8 (.fl 9 (.ef 10 .nil))))) 6 (.ef 4 (.ef 7 (.fl 8 (.fl 9 (.ef 10 .nil))))))))))) (by kernel_rfl) (by kernel_rfl) ?_
      refine wt_read rfl rfl rfl rfl (yl_move rfl rfl) ?_
      refine wt_read rfl rfl rfl rfl (yl_move rfl rfl) ?_
      refine wt_read rfl rfl rfl rfl (yl_nilCheck rfl rfl) ?_
      refine wt_read rfl rfl rfl rfl (yl_fieldB rfl rfl Try.underlying55 rfl (by kernel_rfl) rfl) ?_
      refine wt_read rfl rfl rfl rfl (yl_loadBk 0 rfl rfl rfl Try.underlying58 rfl (by kernel_rfl)) ?_
      refine wt_two ?_ ?_
      ·
        refine wt_readE rfl rfl rfl rfl (yl_load rfl rfl Try.underlying53 rfl (CellAt.bk 1 rfl rfl)) ⟨[_, _], rfl⟩ ?_
        refine wt_eff rfl rfl rfl rfl (ef_buildSlice (e := 58) [(⟨((jenc ms).length : Int) + 2, ((jenc ms).length : Int) + 2 + (nn (bs.drop (jenc ms).length) : Int)⟩ : Sp)] rfl rfl (fun _ => by kernel_rfl) rfl rfl) ?_
        rintro _ _ ⟨T5_6, rfl, rfl⟩
        refine ⟨⟨[_, _, _], rfl⟩, ?_⟩
        refine wt_eff rfl rfl rfl rfl (ef_append (ys := [(⟨((jenc ms).length : Int) + 2, ((jenc ms).length : Int) + 2 + (nn (bs.drop (jenc ms).length) : Int)⟩ : Sp)]) 1 rfl rfl rfl rfl (Rd.of_sl 0 rfl) Try.underlying53 info58 rfl rfl (by simp only [List.length_append, List.length_cons, List.length_nil, maxLen]; omega) (by simp only [List.length_append, List.length_cons, List.length_nil]; omega)) ?_
        rintro _ _ ⟨A9, c9, rfl, hH⟩
        simp only [List.set_cons_succ, List.set_cons_zero] at hH; subst hH
        refine ⟨⟨[_, _, _], rfl⟩, ?_⟩
        rw [e2]
        refine wt_read rfl rfl rfl rfl (yl_nilCheck rfl rfl) ?_
        refine wt_read rfl rfl rfl rfl (yl_fieldB rfl rfl Try.underlying55 rfl (by kernel_rfl) rfl) ?_
        refine wt_store rfl rfl rfl (es_at2 (es_store 2 rfl rfl rfl rfl (by kernel_rfl) rfl rfl)) ⟨[_, _, _], rfl⟩ ?_
        refine wt_nil ?_
        refine at_keep (Keep.cons 0 rfl (Keep.cons 3 rfl (Keep.cons 4 rfl (Keep.cons 5 rfl (Keep.cons 12 rfl (Keep.cons 23 rfl Keep.nil)))))) ?_
        refine at_region ?_
        refine wl_read rfl rfl rfl (yl_move rfl rfl) ?_
        refine wl_read rfl rfl rfl (yl_fieldB rfl rfl Try.underlying58 rfl (by kernel_rfl) rfl) ?_
        refine wl_read rfl rfl rfl (yl_load rfl rfl Try.underlying3 rfl (CellAt.bk 3 rfl rfl)) ?_
        refine wl_read rfl rfl rfl (yl_add (r := ((jenc (ms ++ [rec1 (bs.drop (jenc ms).length)])).length : Int)) rfl rfl rfl (by rw [w64 (by omega) (by omega)]; omega)) ?_
        refine wl_read rfl rfl rfl (yl_nilCheck rfl rfl) ?_
        refine wl_read rfl rfl rfl (yl_fieldB rfl rfl Try.underlying55 rfl (by kernel_rfl) rfl) ?_
        refine wl_store rfl rfl (es_at2 (es_store 2 rfl rfl rfl rfl (by kernel_rfl) rfl rfl)) ?_
        refine wl_nil ?_
        refine at_keep (Keep.cons 0 rfl (Keep.cons 3 rfl (Keep.cons 4 rfl (Keep.cons 5 rfl (Keep.cons 12 rfl (Keep.cons 23 rfl Keep.nil)))))) ?_
        refine at_inBlock ?_
        refine at_heap (fun _ hw => hw.tail) ?_
        refine at_heap (fun _ hw => hw.front2.tail) ?_
        refine at_heap (fun _ hw => hw.front1) ?_
        exact at_keep (L' := (fun (ms : List (List UInt8)) (A2 : Option Addr) (c2 : Nat) => [(0, .slice A bs.length c), (3, .pointer (some ⟨g, 0, none⟩))]) (ms ++ [rec1 (bs.drop (jenc ms).length)]) A9 c9) (Keep.consEq 0 rfl rfl (Keep.consEq 3 rfl rfl Keep.nil)) (ih (ms ++ [rec1 (bs.drop (jenc ms).length)]) A9 c9 (hI.step hlt hgd) (by rw [List.length_append, List.length_singleton]; omega))
      ·
        refine wt_eff rfl rfl rfl rfl (ef_buildSlice (e := 58) [(⟨((jenc ms).length : Int) + 2, ((jenc ms).length : Int) + 2 + (nn (bs.drop (jenc ms).length) : Int)⟩ : Sp)] rfl rfl (fun _ => by kernel_rfl) rfl rfl) ?_
        rintro _ _ ⟨T5_6, rfl, rfl⟩
        refine ⟨⟨[_, _, _], rfl⟩, ?_⟩
        refine wt_readE rfl rfl rfl rfl (yl_load rfl rfl Try.underlying53 rfl (CellAt.bk 2 rfl rfl)) ⟨[_, _, _], rfl⟩ ?_
        refine wt_eff rfl rfl rfl rfl (ef_append (ys := [(⟨((jenc ms).length : Int) + 2, ((jenc ms).length : Int) + 2 + (nn (bs.drop (jenc ms).length) : Int)⟩ : Sp)]) 1 rfl rfl rfl rfl (Rd.of_sl 0 rfl) Try.underlying53 info58 rfl rfl (by simp only [List.length_append, List.length_cons, List.length_nil, maxLen]; omega) (by simp only [List.length_append, List.length_cons, List.length_nil]; omega)) ?_
        rintro _ _ ⟨A9, c9, rfl, hH⟩
        simp only [List.set_cons_succ, List.set_cons_zero] at hH; subst hH
        refine ⟨⟨[_, _, _], rfl⟩, ?_⟩
        rw [e2]
        refine wt_read rfl rfl rfl rfl (yl_nilCheck rfl rfl) ?_
        refine wt_read rfl rfl rfl rfl (yl_fieldB rfl rfl Try.underlying55 rfl (by kernel_rfl) rfl) ?_
        refine wt_store rfl rfl rfl (es_at2 (es_store 2 rfl rfl rfl rfl (by kernel_rfl) rfl rfl)) ⟨[_, _, _], rfl⟩ ?_
        refine wt_nil ?_
        refine at_keep (Keep.cons 0 rfl (Keep.cons 3 rfl (Keep.cons 4 rfl (Keep.cons 5 rfl (Keep.cons 12 rfl (Keep.cons 23 rfl Keep.nil)))))) ?_
        refine at_region ?_
        refine wl_read rfl rfl rfl (yl_move rfl rfl) ?_
        refine wl_read rfl rfl rfl (yl_fieldB rfl rfl Try.underlying58 rfl (by kernel_rfl) rfl) ?_
        refine wl_read rfl rfl rfl (yl_load rfl rfl Try.underlying3 rfl (CellAt.bk 3 rfl rfl)) ?_
        refine wl_read rfl rfl rfl (yl_add (r := ((jenc (ms ++ [rec1 (bs.drop (jenc ms).length)])).length : Int)) rfl rfl rfl (by rw [w64 (by omega) (by omega)]; omega)) ?_
        refine wl_read rfl rfl rfl (yl_nilCheck rfl rfl) ?_
        refine wl_read rfl rfl rfl (yl_fieldB rfl rfl Try.underlying55 rfl (by kernel_rfl) rfl) ?_
        refine wl_store rfl rfl (es_at2 (es_store 2 rfl rfl rfl rfl (by kernel_rfl) rfl rfl)) ?_
        refine wl_nil ?_
        refine at_keep (Keep.cons 0 rfl (Keep.cons 3 rfl (Keep.cons 4 rfl (Keep.cons 5 rfl (Keep.cons 12 rfl (Keep.cons 23 rfl Keep.nil)))))) ?_
        refine at_inBlock ?_
        refine at_heap (fun _ hw => hw.tail) ?_
        refine at_heap (fun _ hw => hw.front2.tail) ?_
        refine at_heap (fun _ hw => hw.front1) ?_
        exact at_keep (L' := (fun (ms : List (List UInt8)) (A2 : Option Addr) (c2 : Nat) => [(0, .slice A bs.length c), (3, .pointer (some ⟨g, 0, none⟩))]) (ms ++ [rec1 (bs.drop (jenc ms).length)]) A9 c9) (Keep.consEq 0 rfl rfl (Keep.consEq 3 rfl rfl Keep.nil)) (ih (ms ++ [rec1 (bs.drop (jenc ms).length)]) A9 c9 (hI.step hlt hgd) (by rw [List.length_append, List.length_singleton]; omega))
    ·
      refine wl_read rfl rfl rfl (yl_move rfl rfl) ?_
      refine wl_read rfl rfl rfl (yl_extract rfl rfl rfl) ?_
      refine wl_read rfl rfl rfl (yl_extract rfl rfl rfl) ?_
      refine wl_eff rfl rfl rfl (ef_alloc (cs := [.int .i64 0, .int .i64 0]) (z := .agg #[.int .i64 0, .int .i64 0]) rfl (by kernel_rfl) rfl) ?_
      rintro _ _ ⟨ga, rfl, rfl⟩
      refine wl_store rfl rfl (es_at0 (es_storeN 0 rfl rfl rfl rfl (by kernel_rfl) rfl rfl)) ?_
      refine wl_read rfl rfl rfl (yl_assign rfl rfl) ?_
      refine wl_nil ?_
      refine at_keep (Keep.cons 0 rfl (Keep.cons 3 rfl (Keep.cons 4 rfl (Keep.cons 5 rfl (Keep.cons 12 rfl Keep.nil))))) ?_
      refine at_seq ?_
      refine at_seq ?_
      refine at_region ?_
      refine wl_read rfl rfl rfl (yl_move rfl rfl) ?_
      refine wl_read rfl rfl rfl (yl_notF rfl rfl) ?_
      refine wl_nil ?_
      refine at_keep (Keep.cons 0 rfl (Keep.cons 3 rfl (Keep.cons 4 rfl (Keep.cons 5 rfl (Keep.cons 12 rfl (Keep.cons 23 rfl Keep.nil)))))) ?_
      refine at_true rfl ?_
      refine at_exit rfl ?_
      refine at_seq ?_
      refine at_heap (fun _ hw => hw.tail) ?_
      refine at_heap (fun _ hw => hw.front1.front1) ?_
      have hpr : prs 20000 bs = ms := hI.stop hgd
      rw [hpr]
      have hsz := hI.size
      have hle := hI.le
      have hpre := hI.pre
      refine at_region ?_
      refine wl_read rfl rfl rfl (yl_move rfl rfl) ?_
      refine wl_read rfl rfl rfl (yl_move rfl rfl) ?_
      refine wl_read rfl rfl rfl (yl_move rfl rfl) ?_
      refine wl_read rfl rfl rfl (yl_nilCheck rfl rfl) ?_
      refine wl_read rfl rfl rfl (yl_fieldB rfl rfl Try.underlying55 rfl (by kernel_rfl) rfl) ?_
      refine wl_read rfl rfl rfl (yl_load rfl rfl Try.underlying3 rfl (CellAt.bk 0 rfl rfl)) ?_
      refine wl_read rfl rfl rfl (yl_sliceH (xs := bs) (j := (jenc ms).length) rfl rfl rfl rfl hle hcap Try.underlying30 (by kernel_rfl) rfl) ?_
      refine wl_call rfl rfl rfl (en_call rfl rfl) (clone_fn (bs.take (jenc ms).length) A c _ _ (((hR.cons _).cons _).take _) (by rw [hpre]; omega)) ?_
      rintro _ _ ⟨A1, c1, rfl, rfl⟩
      rw [hpre]
      refine wl_read rfl rfl rfl (yl_nilCheck rfl rfl) ?_
      refine wl_read rfl rfl rfl (yl_fieldB rfl rfl Try.underlying55 rfl (by kernel_rfl) rfl) ?_
      refine wl_store rfl rfl (es_at1 (es_store 1 rfl rfl rfl rfl (by kernel_rfl) rfl rfl)) ?_
      refine wl_nil ?_
      refine at_keep (Keep.cons 0 rfl (Keep.cons 3 rfl (Keep.cons 4 rfl (Keep.cons 5 rfl (Keep.cons 12 rfl (Keep.cons 23 rfl Keep.nil)))))) ?_
      refine at_seq ?_
      refine at_region ?_
      refine wl_read rfl rfl rfl (yl_move rfl rfl) ?_
      refine wl_read rfl rfl rfl (yl_assign rfl rfl) ?_
      refine wl_nil ?_
      refine at_keep (Keep.cons 0 rfl (Keep.cons 2 rfl (Keep.cons 3 rfl (Keep.cons 4 rfl (Keep.cons 5 rfl (Keep.cons 12 rfl (Keep.cons 23 rfl Keep.nil))))))) ?_
      refine at_retH (fun _ hw => Jn.closes (rs := ms) (fl := (jenc ms).length) (hw.front2.front1.front2)) Try.func26 (res1 rfl rfl) ?_
      exact ⟨g, rfl, rfl⟩
  · intro h2_5
    refine wl_nil ?_
    refine at_keep (Keep.cons 0 rfl (Keep.cons 3 rfl (Keep.cons 12 rfl Keep.nil))) ?_
    refine at_false rfl ?_
    refine at_exit rfl ?_
    refine at_seq ?_
    have hpr : prs 20000 bs = ms := hI.full (by omega)
    rw [hpr]
    have hsz := hI.size
    have hle := hI.le
    have hpre := hI.pre
    refine at_region ?_
    refine wl_read rfl rfl rfl (yl_move rfl rfl) ?_
    refine wl_read rfl rfl rfl (yl_move rfl rfl) ?_
    refine wl_read rfl rfl rfl (yl_move rfl rfl) ?_
    refine wl_read rfl rfl rfl (yl_nilCheck rfl rfl) ?_
    refine wl_read rfl rfl rfl (yl_fieldB rfl rfl Try.underlying55 rfl (by kernel_rfl) rfl) ?_
    refine wl_read rfl rfl rfl (yl_load rfl rfl Try.underlying3 rfl (CellAt.bk 0 rfl rfl)) ?_
    refine wl_read rfl rfl rfl (yl_sliceH (xs := bs) (j := (jenc ms).length) rfl rfl rfl rfl hle hcap Try.underlying30 (by kernel_rfl) rfl) ?_
    refine wl_call rfl rfl rfl (en_call rfl rfl) (clone_fn (bs.take (jenc ms).length) A c _ _ (((hR.cons _).cons _).take _) (by rw [hpre]; omega)) ?_
    rintro _ _ ⟨A1, c1, rfl, rfl⟩
    rw [hpre]
    refine wl_read rfl rfl rfl (yl_nilCheck rfl rfl) ?_
    refine wl_read rfl rfl rfl (yl_fieldB rfl rfl Try.underlying55 rfl (by kernel_rfl) rfl) ?_
    refine wl_store rfl rfl (es_at1 (es_store 1 rfl rfl rfl rfl (by kernel_rfl) rfl rfl)) ?_
    refine wl_nil ?_
    refine at_keep (Keep.cons 0 rfl (Keep.cons 3 rfl (Keep.cons 12 rfl Keep.nil))) ?_
    refine at_seq ?_
    refine at_region ?_
    refine wl_read rfl rfl rfl (yl_move rfl rfl) ?_
    refine wl_read rfl rfl rfl (yl_assign rfl rfl) ?_
    refine wl_nil ?_
    refine at_keep (Keep.cons 0 rfl (Keep.cons 2 rfl (Keep.cons 3 rfl (Keep.cons 12 rfl Keep.nil)))) ?_
    refine at_retH (fun _ hw => Jn.closes (rs := ms) (fl := (jenc ms).length) (hw.front2.front1.front2)) Try.func26 (res1 rfl rfl) ?_
    exact ⟨g, rfl, rfl⟩
end Go.Proofs.Yteecjaiklpkhaaa

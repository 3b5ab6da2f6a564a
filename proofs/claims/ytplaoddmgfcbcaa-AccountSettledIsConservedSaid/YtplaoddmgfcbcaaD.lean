/- Walks of Post and of its reference. -/
import Derived.Test.YtplaoddmgfcbcaaC
namespace Go.Proofs.Ytplaoddmgfcbcaa
open Go

theorem mul_sg {e : Entry} (h : okE e) : IntKind.i64.wrap ((if e.kind = 3 then -1 else 1) * e.amount) = if e.kind = 3 then -e.amount else e.amount := by
  obtain ⟨⟨_, _, h1, h2⟩, _⟩ := h
  split
  · exact (w64 (by omega) (by omega)).trans (by omega)
  · exact (w64 (by omega) (by omega)).trans (by omega)
theorem add_nst {es : List Entry} {e : Entry} (hg : Good es) (h : okE e) : IntKind.i64.wrap (stl es + if e.kind = 3 then -e.amount else e.amount) = nst es e := by
  obtain ⟨⟨_, _, h1, h2⟩, _⟩ := h
  have hb := hg.bound
  unfold nst
  split
  · exact (w64 (by omega) (by omega)).trans (by omega)
  · exact (w64 (by omega) (by omega))
theorem cnt_put (es : List Entry) (e : Entry) : (fun k' => if k' = e.key then cnt es e.key + 1 else cnt es k') = cnt (es ++ [e]) := by
  funext k
  rw [cnt_app]
  by_cases h : k = e.key
  · subst h; rw [if_pos rfl, if_pos rfl]
  · rw [if_neg h, if_neg (fun h' => h h'.symm), Int.add_zero]
theorem pnext_no {es : List Entry} {e : Entry} (h : perr es e ≠ 0) : pnext es e = es := by unfold pnext; rw [if_neg h]
theorem pnext_yes {es : List Entry} {e : Entry} (h : perr es e = 0) : pnext es e = es ++ [e] := by unfold pnext; rw [if_pos h]
theorem perr1 {es : List Entry} {e : Entry} (h : ¬ okE e) : perr es e = 1 := by unfold perr; rw [if_pos h]
theorem perr13 {es : List Entry} {e : Entry} (h : okE e) (h2 : old es e.month) : perr es e = 13 := by unfold perr; rw [if_neg (fun hn => hn h), if_pos h2]
theorem perr10 {es : List Entry} {e : Entry} (h : okE e) (h2 : ¬ old es e.month) (h3 : e.kind ≠ 1 ∧ 0 < cnt es e.key) : perr es e = 10 := by unfold perr; rw [if_neg (fun hn => hn h), if_neg h2, if_pos h3]
theorem perr2 {es : List Entry} {e : Entry} (h : okE e) (h2 : ¬ old es e.month) (h3 : ¬ (e.kind ≠ 1 ∧ 0 < cnt es e.key)) (h4 : wide (nst es e)) : perr es e = 2 := by unfold perr; rw [if_neg (fun hn => hn h), if_neg h2, if_neg h3, if_pos h4]
theorem perr0 {es : List Entry} {e : Entry} (h : okE e) (h2 : ¬ old es e.month) (h3 : ¬ (e.kind ≠ 1 ∧ 0 < cnt es e.key)) (h4 : ¬ wide (nst es e)) : perr es e = 0 := by unfold perr; rw [if_neg (fun hn => hn h), if_neg h2, if_neg h3, if_neg h4]

theorem post_fn (es : List Entry) (e : Entry) (g : Nat) (b : World) (H : List Asr) (hg : Good es) (hl : es.length ≤ 999) : Fn Try.prog 19 [.pointer (some ⟨g, 0, none⟩), .agg (Enc.cells e).toArray] b (Acc g es :: H) (fun v H' => v = .int .i64 (perr es e) ∧ Acc g (pnext es e) :: H = H') := by
  refine Acc.fn fun A c m => ?_
  refine fn_of_at (by kernel_rfl) Try.func19 rfl Try.ntmps19 rfl rfl ?_
  refine at_seq ?_
  refine at_region ?_
  refine wl_eff rfl rfl rfl (ef_box rfl rfl rfl) ?_
  rintro _ _ ⟨g0, rfl, rfl⟩
  refine wl_read rfl rfl rfl (yl_assign rfl rfl) ?_
  refine wl_nil ?_
  refine at_keep (Keep.cons 0 rfl (Keep.cons 1 rfl (Keep.cons 3 rfl (Keep.cons 4 rfl Keep.nil)))) ?_
  refine at_seq ?_
  refine at_seq ?_
  refine at_region ?_
  refine wl_read rfl rfl rfl (yl_move rfl rfl) ?_
  refine wl_read rfl rfl rfl (yl_eqPtr rfl rfl rfl (by kernel_rfl) rfl) ?_
  refine wl_read rfl rfl rfl (yl_move rfl rfl) ?_
  refine wl_read rfl rfl rfl (yl_loadBk 0 rfl rfl rfl Try.underlying33 rfl (by kernel_rfl)) ?_
  refine wl_call rfl rfl rfl (en_call rfl rfl) (valid_fn e _ _) ?_
  rintro _ _ ⟨rfl, rfl⟩
  rcases Classical.em (okE e) with hv | hv
  ·
    rw [decide_eq_true hv]
    refine wl_read rfl rfl rfl (yl_notT rfl rfl) ?_
    refine wl_read rfl rfl rfl (yl_pickF rfl rfl rfl) ?_
    refine wl_nil ?_
    refine at_keep (Keep.cons 0 rfl (Keep.cons 1 rfl (Keep.cons 3 rfl (Keep.cons 4 rfl (Keep.cons 13 rfl Keep.nil))))) ?_
    refine at_false rfl ?_
    refine at_skip ?_
    refine at_seq ?_
    refine at_seq ?_
    refine at_region ?_
    refine wl_read rfl rfl rfl (yl_move rfl rfl) ?_
    refine wl_read rfl rfl rfl (yl_nilCheck rfl rfl) ?_
    refine wl_read rfl rfl rfl (yl_fieldB rfl rfl Try.underlying54 rfl (by kernel_rfl) rfl) ?_
    refine wl_read rfl rfl rfl (yl_load rfl rfl Try.underlying27 rfl (CellAt.bk 1 rfl rfl)) ?_
    refine wl_read rfl rfl rfl (yl_len rfl rfl Try.underlying27) ?_
    refine wl_read rfl rfl rfl (yl_assign rfl rfl) ?_
    refine wl_nil ?_
    refine at_keep (Keep.cons 0 rfl (Keep.cons 1 rfl (Keep.cons 3 rfl (Keep.cons 4 rfl (Keep.cons 5 rfl (Keep.cons 13 rfl Keep.nil)))))) ?_
    refine at_seq ?_
    refine at_draw0 (.fl 0 (.fl 1 (.fl 2 (.fl 3 (.fl 4 (.fl 5 (.fl 6 (.fl 7 (.fl 8 (.fl 9 (.fl 10 (.fl 11 (.fl 12 (.fl 13 (.fl 14 (.fl 15 .nil)))))))))))))))) (by kernel_rfl) (by kernel_rfl) ?_
    refine wt_read rfl rfl rfl rfl (yl_move rfl rfl) ?_
    refine wt_split rfl rfl rfl rfl (yp_gtr rfl rfl rfl) ?_ ?_
    · intro h4_1
      refine wt_read rfl rfl rfl rfl (yl_move rfl rfl) ?_
      refine wt_read rfl rfl rfl rfl (yl_move rfl rfl) ?_
      refine wt_read rfl rfl rfl rfl (yl_nilCheck rfl rfl) ?_
      refine wt_read rfl rfl rfl rfl (yl_fieldB rfl rfl Try.underlying54 rfl (by kernel_rfl) rfl) ?_
      refine wt_read rfl rfl rfl rfl (yl_load rfl rfl Try.underlying27 rfl (CellAt.bk 1 rfl rfl)) ?_
      refine wt_read rfl rfl rfl rfl (yl_move rfl rfl) ?_
      refine wt_read rfl rfl rfl rfl (yl_sub rfl rfl rfl (w64 (by omega) (by omega))) ?_
      refine wt_read rfl rfl rfl rfl (yl_index rfl rfl rfl (Rd.of_sl 2 rfl) (at_some (show es.length - 1 < es.length by omega)) (by omega) rfl Try.underlying27 (by kernel_rfl) rfl) ?_
      refine wt_read rfl rfl rfl rfl (yl_field rfl rfl Try.underlying33 rfl (by kernel_rfl) rfl) ?_
      refine wt_read rfl rfl rfl rfl (yl_load rfl rfl Try.underlying3 rfl ((Rd.of_sl 2 rfl).cell2 (at_some (show es.length - 1 < es.length by omega)) rfl)) ?_
      refine wt_read rfl rfl rfl rfl (yl_fieldB rfl rfl Try.underlying33 rfl (by kernel_rfl) rfl) ?_
      refine wt_read rfl rfl rfl rfl (yl_load rfl rfl Try.underlying3 rfl (CellAt.bk 0 rfl rfl)) ?_
      refine wt_split rfl rfl rfl rfl (yp_gtr rfl rfl rfl) ?_ ?_
      · intro h4_14
        refine wt_read rfl rfl rfl rfl (yl_pickT rfl rfl rfl) ?_
        refine wt_nil ?_
        refine at_keep (Keep.cons 0 rfl (Keep.cons 1 rfl (Keep.cons 3 rfl (Keep.cons 4 rfl (Keep.cons 5 rfl (Keep.cons 13 rfl (Keep.cons 34 rfl Keep.nil))))))) ?_
        refine at_true rfl ?_
        refine at_seq ?_
        have hold : old es e.month := (old_last hg _).2 ⟨by omega, h4_14⟩
        refine at_region ?_
        refine wl_read rfl rfl rfl (yl_assign rfl rfl) ?_
        refine wl_nil ?_
        refine at_keep (Keep.cons 0 rfl (Keep.cons 1 rfl (Keep.cons 3 rfl (Keep.cons 4 rfl (Keep.cons 5 rfl (Keep.cons 13 rfl (Keep.cons 34 rfl Keep.nil))))))) ?_
        refine at_retH (fun _ hw => Acc.closes hw.front3.front3.front3.drop3 rfl rfl) Try.func19 (res1 rfl rfl) ?_
        have hpe : perr es e = 13 := perr13 hv hold
        exact ⟨by rw [hpe], by rw [pnext_no (by rw [hpe]; decide)]⟩
      · intro h4_14
        refine wt_read rfl rfl rfl rfl (yl_pickT rfl rfl rfl) ?_
        refine wt_nil ?_
        refine at_keep (Keep.cons 0 rfl (Keep.cons 1 rfl (Keep.cons 3 rfl (Keep.cons 4 rfl (Keep.cons 5 rfl (Keep.cons 13 rfl (Keep.cons 34 rfl Keep.nil))))))) ?_
        refine at_false rfl ?_
        refine at_skip ?_
        refine at_seq ?_
        refine at_seq ?_
        have hold : ¬ old es e.month := fun h => by have := (old_last hg _).1 h; omega
        refine at_region ?_
        refine wl_read rfl rfl rfl (yl_move rfl rfl) ?_
        refine wl_read rfl rfl rfl (yl_fieldB rfl rfl Try.underlying33 rfl (by kernel_rfl) rfl) ?_
        refine wl_read rfl rfl rfl (yl_load rfl rfl Try.underlying3 rfl (CellAt.bk 0 rfl rfl)) ?_
        refine wl_read rfl rfl rfl (yl_fieldB rfl rfl Try.underlying33 rfl (by kernel_rfl) rfl) ?_
        refine wl_read rfl rfl rfl (yl_load rfl rfl Try.underlying3 rfl (CellAt.bk 0 rfl rfl)) ?_
        refine wl_read rfl rfl rfl (yl_fieldB rfl rfl Try.underlying33 rfl (by kernel_rfl) rfl) ?_
        refine wl_read rfl rfl rfl (yl_load rfl rfl Try.underlying3 rfl (CellAt.bk 0 rfl rfl)) ?_
        refine wl_call rfl rfl rfl (en_call rfl rfl) (has_at es g _ _ 1 3 rfl rfl e.key) ?_
        rintro _ _ ⟨rfl, rfl⟩
        rcases Classical.em (0 < cnt es e.key) with hh | hh
        ·
          rw [decide_eq_true hh]
          refine wl_read rfl rfl rfl (yl_move rfl rfl) ?_
          refine wl_read rfl rfl rfl (yl_fieldB rfl rfl Try.underlying33 rfl (by kernel_rfl) rfl) ?_
          refine wl_read rfl rfl rfl (yl_load rfl rfl Try.underlying3 rfl (CellAt.bk 0 rfl rfl)) ?_
          refine wl_split rfl rfl rfl (yp_neq rfl rfl rfl) ?_ ?_
          · intro h6_11
            refine wl_read rfl rfl rfl (yl_pickT rfl rfl rfl) ?_
            refine wl_nil ?_
            refine at_keep (Keep.cons 0 rfl (Keep.cons 1 rfl (Keep.cons 3 rfl (Keep.cons 4 rfl (Keep.cons 5 rfl (Keep.cons 13 rfl (Keep.cons 34 rfl (Keep.cons 47 rfl Keep.nil)))))))) ?_
            refine at_true rfl ?_
            refine at_seq ?_
            have hdup : e.kind ≠ 1 ∧ 0 < cnt es e.key := ⟨h6_11, hh⟩
            refine at_region ?_
            refine wl_read rfl rfl rfl (yl_assign rfl rfl) ?_
            refine wl_nil ?_
            refine at_keep (Keep.cons 0 rfl (Keep.cons 1 rfl (Keep.cons 3 rfl (Keep.cons 4 rfl (Keep.cons 5 rfl (Keep.cons 13 rfl (Keep.cons 34 rfl (Keep.cons 47 rfl Keep.nil)))))))) ?_
            refine at_retH (fun _ hw => Acc.closes hw.front3.front3.front3.drop3 rfl rfl) Try.func19 (res1 rfl rfl) ?_
            have hpe : perr es e = 10 := perr10 hv hold hdup
            exact ⟨by rw [hpe], by rw [pnext_no (by rw [hpe]; decide)]⟩
          · intro h6_11
            refine wl_read rfl rfl rfl (yl_pickT rfl rfl rfl) ?_
            refine wl_nil ?_
            refine at_keep (Keep.cons 0 rfl (Keep.cons 1 rfl (Keep.cons 3 rfl (Keep.cons 4 rfl (Keep.cons 5 rfl (Keep.cons 13 rfl (Keep.cons 34 rfl (Keep.cons 47 rfl Keep.nil)))))))) ?_
            refine at_false rfl ?_
            refine at_skip ?_
            refine at_seq ?_
            have hdup : ¬ (e.kind ≠ 1 ∧ 0 < cnt es e.key) := fun h => h6_11 h.1
            refine at_draw0 (.fl 0 (.fl 1 (.fl 2 (.fl 3 (.fl 4 (.fl 5 (.fl 7 (.fl 8 (.ef 6 (.fl 9 (.fl 10 (.fl 11 .nil)))))))))))) (by kernel_rfl) (by kernel_rfl) ?_
            refine wt_read rfl rfl rfl rfl (yl_move rfl rfl) ?_
            refine wt_read rfl rfl rfl rfl (yl_nilCheck rfl rfl) ?_
            refine wt_read rfl rfl rfl rfl (yl_fieldB rfl rfl Try.underlying54 rfl (by kernel_rfl) rfl) ?_
            refine wt_read rfl rfl rfl rfl (yl_load rfl rfl Try.underlying3 rfl (CellAt.bk 1 rfl rfl)) ?_
            refine wt_read rfl rfl rfl rfl (yl_fieldB rfl rfl Try.underlying33 rfl (by kernel_rfl) rfl) ?_
            refine wt_read rfl rfl rfl rfl (yl_load rfl rfl Try.underlying3 rfl (CellAt.bk 0 rfl rfl)) ?_
            refine wt_read rfl rfl rfl rfl (yl_fieldB rfl rfl Try.underlying33 rfl (by kernel_rfl) rfl) ?_
            refine wt_read rfl rfl rfl rfl (yl_load rfl rfl Try.underlying3 rfl (CellAt.bk 0 rfl rfl)) ?_
            refine wt_call rfl rfl rfl rfl (en_call rfl rfl) (sign_fn e.kind _ _) ?_
            rintro _ _ ⟨rfl, rfl⟩
            refine ⟨⟨[], rfl⟩, ?_⟩
            refine wt_read rfl rfl rfl rfl (yl_mul rfl rfl rfl (mul_sg hv)) ?_
            refine wt_read rfl rfl rfl rfl (yl_add rfl rfl rfl (add_nst hg hv)) ?_
            refine wt_read rfl rfl rfl rfl (yl_assign rfl rfl) ?_
            refine wt_nil ?_
            refine at_keep (Keep.cons 0 rfl (Keep.cons 1 rfl (Keep.cons 3 rfl (Keep.cons 4 rfl (Keep.cons 5 rfl (Keep.cons 6 rfl (Keep.cons 13 rfl (Keep.cons 34 rfl (Keep.cons 47 rfl Keep.nil))))))))) ?_
            refine at_seq ?_
            refine at_seq ?_
            refine at_region ?_
            refine wl_read rfl rfl rfl (yl_move rfl rfl) ?_
            refine wl_split rfl rfl rfl (yp_lss rfl rfl rfl) ?_ ?_
            · intro h9_1
              refine wl_read rfl rfl rfl (yl_move rfl rfl) ?_
              refine wl_skip rfl rfl rfl ?_
              refine wl_skip rfl rfl rfl ?_
              refine wl_read rfl rfl rfl (yl_pickT rfl rfl rfl) ?_
              refine wl_nil ?_
              refine at_keep (Keep.cons 0 rfl (Keep.cons 1 rfl (Keep.cons 3 rfl (Keep.cons 4 rfl (Keep.cons 5 rfl (Keep.cons 6 rfl (Keep.cons 13 rfl (Keep.cons 34 rfl (Keep.cons 47 rfl (Keep.cons 64 rfl Keep.nil)))))))))) ?_
              refine at_true rfl ?_
              refine at_seq ?_
              have hwd : wide (nst es e) := by unfold wide; omega
              refine at_region ?_
              refine wl_read rfl rfl rfl (yl_assign rfl rfl) ?_
              refine wl_nil ?_
              refine at_keep (Keep.cons 0 rfl (Keep.cons 1 rfl (Keep.cons 3 rfl (Keep.cons 4 rfl (Keep.cons 5 rfl (Keep.cons 6 rfl (Keep.cons 13 rfl (Keep.cons 34 rfl (Keep.cons 47 rfl (Keep.cons 64 rfl Keep.nil)))))))))) ?_
              refine at_retH (fun _ hw => Acc.closes hw.front3.front3.front3.drop3 rfl rfl) Try.func19 (res1 rfl rfl) ?_
              have hpe : perr es e = 2 := perr2 hv hold hdup hwd
              exact ⟨by rw [hpe], by rw [pnext_no (by rw [hpe]; decide)]⟩
            · intro h9_1
              refine wl_read rfl rfl rfl (yl_move rfl rfl) ?_
              refine wl_read rfl rfl rfl (yl_move rfl rfl) ?_
              refine wl_split rfl rfl rfl (yp_gtr rfl rfl rfl) ?_ ?_
              · intro h9_4
                refine wl_read rfl rfl rfl (yl_pickF rfl rfl rfl) ?_
                refine wl_nil ?_
                refine at_keep (Keep.cons 0 rfl (Keep.cons 1 rfl (Keep.cons 3 rfl (Keep.cons 4 rfl (Keep.cons 5 rfl (Keep.cons 6 rfl (Keep.cons 13 rfl (Keep.cons 34 rfl (Keep.cons 47 rfl (Keep.cons 64 rfl Keep.nil)))))))))) ?_
                refine at_true rfl ?_
                refine at_seq ?_
                have hwd : wide (nst es e) := by unfold wide; omega
                refine at_region ?_
                refine wl_read rfl rfl rfl (yl_assign rfl rfl) ?_
                refine wl_nil ?_
                refine at_keep (Keep.cons 0 rfl (Keep.cons 1 rfl (Keep.cons 3 rfl (Keep.cons 4 rfl (Keep.cons 5 rfl (Keep.cons 6 rfl (Keep.cons 13 rfl (Keep.cons 34 rfl (Keep.cons 47 rfl (Keep.cons 64 rfl Keep.nil)))))))))) ?_
                refine at_retH (fun _ hw => Acc.closes hw.front3.front3.front3.drop3 rfl rfl) Try.func19 (res1 rfl rfl) ?_
                have hpe : perr es e = 2 := perr2 hv hold hdup hwd
                exact ⟨by rw [hpe], by rw [pnext_no (by rw [hpe]; decide)]⟩
              · intro h9_4
                refine wl_read rfl rfl rfl (yl_pickF rfl rfl rfl) ?_
                refine wl_nil ?_
                refine at_keep (Keep.cons 0 rfl (Keep.cons 1 rfl (Keep.cons 3 rfl (Keep.cons 4 rfl (Keep.cons 5 rfl (Keep.cons 6 rfl (Keep.cons 13 rfl (Keep.cons 34 rfl (Keep.cons 47 rfl (Keep.cons 64 rfl Keep.nil)))))))))) ?_
                refine at_false rfl ?_
                refine at_skip ?_
                refine at_seq ?_
                have hwd : ¬ wide (nst es e) := by unfold wide; omega
                refine at_heap (fun _ hw => hw.front1.front2) ?_
                refine at_draw2 (.fl 0 (.fl 1 (.fl 2 (.fl 3 (.fl 5 (.ef2 4 (.ef 6 (.ef 7 (.fl 8 (.fl 9 (.ef 10 .nil))))) 6 (.ef 4 (.ef 7 (.fl 8 (.fl 9 (.ef 10 .nil))))))))))) (by kernel_rfl) (by kernel_rfl) ?_
                refine wt_read rfl rfl rfl rfl (yl_move rfl rfl) ?_
                refine wt_read rfl rfl rfl rfl (yl_move rfl rfl) ?_
                refine wt_read rfl rfl rfl rfl (yl_nilCheck rfl rfl) ?_
                refine wt_read rfl rfl rfl rfl (yl_fieldB rfl rfl Try.underlying54 rfl (by kernel_rfl) rfl) ?_
                refine wt_read rfl rfl rfl rfl (yl_loadBk 0 rfl rfl rfl Try.underlying33 rfl (by kernel_rfl)) ?_
                refine wt_two ?_ ?_
                ·
                  refine wt_readE rfl rfl rfl rfl (yl_load rfl rfl Try.underlying27 rfl (CellAt.bk 1 rfl rfl)) ⟨[_, _], rfl⟩ ?_
                  refine wt_eff rfl rfl rfl rfl (ef_buildSlice (e := 33) [e] rfl rfl (fun _ => by kernel_rfl) rfl rfl) ?_
                  rintro _ _ ⟨T11_6, rfl, rfl⟩
                  refine ⟨⟨[_, _, _], rfl⟩, ?_⟩
                  refine wt_eff rfl rfl rfl rfl (ef_append (ys := [e]) 1 rfl rfl rfl rfl (Rd.of_sl 0 rfl) Try.underlying27 info33 rfl rfl (by simp only [List.length_singleton, maxLen]; omega) (by simp only [List.length_singleton]; omega)) ?_
                  rintro _ _ ⟨A2, c2, rfl, hH⟩
                  simp only [List.set_cons_succ, List.set_cons_zero] at hH; subst hH
                  refine ⟨⟨[_, _, _], rfl⟩, ?_⟩
                  refine wt_read rfl rfl rfl rfl (yl_nilCheck rfl rfl) ?_
                  refine wt_read rfl rfl rfl rfl (yl_fieldB rfl rfl Try.underlying54 rfl (by kernel_rfl) rfl) ?_
                  refine wt_store rfl rfl rfl (es_at2 (es_store 2 rfl rfl rfl rfl (by kernel_rfl) rfl rfl)) ⟨[_, _, _], rfl⟩ ?_
                  refine wt_nil ?_
                  refine at_keep (Keep.cons 0 rfl (Keep.cons 1 rfl (Keep.cons 3 rfl (Keep.cons 4 rfl (Keep.cons 5 rfl (Keep.cons 6 rfl (Keep.cons 13 rfl (Keep.cons 34 rfl (Keep.cons 47 rfl (Keep.cons 64 rfl Keep.nil)))))))))) ?_
                  refine at_seq ?_
                  refine at_heap (fun _ hw => hw.tail) ?_
                  refine at_heap (fun _ hw => hw.front2.front2.front2.front3) ?_
                  refine at_draw1 (.fl 0 (.fl 1 (.fl 2 (.fl 3 (.fl 4 (.fl 5 (.fl 6 (.fl 7 (.fl 8 (.fl 9 (.fl 10 (.ef2 11 (.fl 12 (.ef 13 (.fl 14 (.ef 15 .nil)))) 13 (.fl 14 (.ef 11 (.fl 12 (.ef 15 .nil)))))))))))))))) (by kernel_rfl) (by kernel_rfl) ?_
                  refine wt_read rfl rfl rfl rfl (yl_move rfl rfl) ?_
                  refine wt_read rfl rfl rfl rfl (yl_nilCheck rfl rfl) ?_
                  refine wt_read rfl rfl rfl rfl (yl_fieldB rfl rfl Try.underlying54 rfl (by kernel_rfl) rfl) ?_
                  refine wt_read rfl rfl rfl rfl (yl_load rfl rfl Try.underlying52 rfl (CellAt.bk 1 rfl rfl)) ?_
                  refine wt_read rfl rfl rfl rfl (yl_fieldB rfl rfl Try.underlying33 rfl (by kernel_rfl) rfl) ?_
                  refine wt_read rfl rfl rfl rfl (yl_load rfl rfl Try.underlying3 rfl (CellAt.bk 2 rfl rfl)) ?_
                  refine wt_read rfl rfl rfl rfl (yl_fieldB rfl rfl Try.underlying33 rfl (by kernel_rfl) rfl) ?_
                  refine wt_read rfl rfl rfl rfl (yl_load rfl rfl Try.underlying3 rfl (CellAt.bk 2 rfl rfl)) ?_
                  refine wt_read rfl rfl rfl rfl (yl_fieldB rfl rfl Try.underlying33 rfl (by kernel_rfl) rfl) ?_
                  refine wt_read rfl rfl rfl rfl (yl_load rfl rfl Try.underlying3 rfl (CellAt.bk 2 rfl rfl)) ?_
                  refine wt_read rfl rfl rfl rfl (yl_build (cs := [.int .i64 e.kind, .int .i64 e.with_, .int .i64 e.number]) rfl rfl (fun _ => by kernel_rfl)) ?_
                  refine wt_two ?_ ?_
                  ·
                    refine wt_readE rfl rfl rfl rfl (yl_lookM 0 keyOk rfl e.key rfl rfl rfl Try.underlying52 zero3) ⟨[_], rfl⟩ ?_
                    refine wt_read rfl rfl rfl rfl (yl_add rfl rfl rfl (w64 (by have := cnt_bd es e.key; omega) (by have := cnt_bd es e.key; omega))) ?_
                    refine wt_eff rfl rfl rfl rfl (ef_entry 0 keyOk rfl e.key rfl rfl rfl Try.underlying52 zero3) ?_
                    rintro _ _ ⟨born, rfl, hH⟩
                    simp only [List.set_cons_succ, List.set_cons_zero] at hH; subst hH
                    refine ⟨⟨[_], rfl⟩, ?_⟩
                    refine wt_read rfl rfl rfl rfl (yl_extract rfl rfl rfl) ?_
                    refine wt_store rfl rfl rfl (es_at0 (es_entry 0 rfl rfl rfl rfl rfl)) ⟨[_], rfl⟩ ?_
                    refine wt_nil ?_
                    refine at_keep (Keep.cons 0 rfl (Keep.cons 1 rfl (Keep.cons 3 rfl (Keep.cons 4 rfl (Keep.cons 5 rfl (Keep.cons 6 rfl (Keep.cons 13 rfl (Keep.cons 34 rfl (Keep.cons 47 rfl (Keep.cons 64 rfl Keep.nil)))))))))) ?_
                    refine at_seq ?_
                    refine at_region ?_
                    refine wl_read rfl rfl rfl (yl_move rfl rfl) ?_
                    refine wl_read rfl rfl rfl (yl_move rfl rfl) ?_
                    refine wl_read rfl rfl rfl (yl_nilCheck rfl rfl) ?_
                    refine wl_read rfl rfl rfl (yl_fieldB rfl rfl Try.underlying54 rfl (by kernel_rfl) rfl) ?_
                    refine wl_store rfl rfl (es_at2 (es_store 2 rfl rfl rfl rfl (by kernel_rfl) rfl rfl)) ?_
                    refine wl_nil ?_
                    refine at_keep (Keep.cons 0 rfl (Keep.cons 1 rfl (Keep.cons 3 rfl (Keep.cons 4 rfl (Keep.cons 5 rfl (Keep.cons 6 rfl (Keep.cons 13 rfl (Keep.cons 34 rfl (Keep.cons 47 rfl (Keep.cons 64 rfl Keep.nil)))))))))) ?_
                    refine at_seq ?_
                    refine at_region ?_
                    refine wl_read rfl rfl rfl (yl_assign rfl rfl) ?_
                    refine wl_nil ?_
                    refine at_keep (Keep.cons 0 rfl (Keep.cons 1 rfl (Keep.cons 3 rfl (Keep.cons 4 rfl (Keep.cons 5 rfl (Keep.cons 6 rfl (Keep.cons 13 rfl (Keep.cons 34 rfl (Keep.cons 47 rfl (Keep.cons 64 rfl Keep.nil)))))))))) ?_
                    refine at_retH (fun _ hw => Acc.closes hw.front1.front2.drop3 (nst_app hv).symm (cnt_put es e)) Try.func19 (res1 rfl rfl) ?_
                    have hpe : perr es e = 0 := perr0 hv hold hdup hwd
                    exact ⟨by rw [hpe], by rw [pnext_yes hpe]⟩
                  ·
                    refine wt_eff rfl rfl rfl rfl (ef_entry 0 keyOk rfl e.key rfl rfl rfl Try.underlying52 zero3) ?_
                    rintro _ _ ⟨born, rfl, hH⟩
                    simp only [List.set_cons_succ, List.set_cons_zero] at hH; subst hH
                    refine ⟨⟨[_], rfl⟩, ?_⟩
                    refine wt_read rfl rfl rfl rfl (yl_extract rfl rfl rfl) ?_
                    refine wt_readE rfl rfl rfl rfl (yl_lookME 0 keyOk rfl e.key rfl rfl rfl Try.underlying52 zero3) ⟨[_], rfl⟩ ?_
                    refine wt_read rfl rfl rfl rfl (yl_add rfl rfl rfl (w64 (by have := cnt_bd es e.key; omega) (by have := cnt_bd es e.key; omega))) ?_
                    refine wt_store rfl rfl rfl (es_at0 (es_entry 0 rfl rfl rfl rfl rfl)) ⟨[_], rfl⟩ ?_
                    refine wt_nil ?_
                    refine at_keep (Keep.cons 0 rfl (Keep.cons 1 rfl (Keep.cons 3 rfl (Keep.cons 4 rfl (Keep.cons 5 rfl (Keep.cons 6 rfl (Keep.cons 13 rfl (Keep.cons 34 rfl (Keep.cons 47 rfl (Keep.cons 64 rfl Keep.nil)))))))))) ?_
                    refine at_seq ?_
                    refine at_region ?_
                    refine wl_read rfl rfl rfl (yl_move rfl rfl) ?_
                    refine wl_read rfl rfl rfl (yl_move rfl rfl) ?_
                    refine wl_read rfl rfl rfl (yl_nilCheck rfl rfl) ?_
                    refine wl_read rfl rfl rfl (yl_fieldB rfl rfl Try.underlying54 rfl (by kernel_rfl) rfl) ?_
                    refine wl_store rfl rfl (es_at2 (es_store 2 rfl rfl rfl rfl (by kernel_rfl) rfl rfl)) ?_
                    refine wl_nil ?_
                    refine at_keep (Keep.cons 0 rfl (Keep.cons 1 rfl (Keep.cons 3 rfl (Keep.cons 4 rfl (Keep.cons 5 rfl (Keep.cons 6 rfl (Keep.cons 13 rfl (Keep.cons 34 rfl (Keep.cons 47 rfl (Keep.cons 64 rfl Keep.nil)))))))))) ?_
                    refine at_seq ?_
                    refine at_region ?_
                    refine wl_read rfl rfl rfl (yl_assign rfl rfl) ?_
                    refine wl_nil ?_
                    refine at_keep (Keep.cons 0 rfl (Keep.cons 1 rfl (Keep.cons 3 rfl (Keep.cons 4 rfl (Keep.cons 5 rfl (Keep.cons 6 rfl (Keep.cons 13 rfl (Keep.cons 34 rfl (Keep.cons 47 rfl (Keep.cons 64 rfl Keep.nil)))))))))) ?_
                    refine at_retH (fun _ hw => Acc.closes hw.front1.front2.drop3 (nst_app hv).symm (cnt_put es e)) Try.func19 (res1 rfl rfl) ?_
                    have hpe : perr es e = 0 := perr0 hv hold hdup hwd
                    exact ⟨by rw [hpe], by rw [pnext_yes hpe]⟩
                ·
                  refine wt_eff rfl rfl rfl rfl (ef_buildSlice (e := 33) [e] rfl rfl (fun _ => by kernel_rfl) rfl rfl) ?_
                  rintro _ _ ⟨T11_6, rfl, rfl⟩
                  refine ⟨⟨[_, _, _], rfl⟩, ?_⟩
                  refine wt_readE rfl rfl rfl rfl (yl_load rfl rfl Try.underlying27 rfl (CellAt.bk 2 rfl rfl)) ⟨[_, _, _], rfl⟩ ?_
                  refine wt_eff rfl rfl rfl rfl (ef_append (ys := [e]) 1 rfl rfl rfl rfl (Rd.of_sl 0 rfl) Try.underlying27 info33 rfl rfl (by simp only [List.length_singleton, maxLen]; omega) (by simp only [List.length_singleton]; omega)) ?_
                  rintro _ _ ⟨A2, c2, rfl, hH⟩
                  simp only [List.set_cons_succ, List.set_cons_zero] at hH; subst hH
                  refine ⟨⟨[_, _, _], rfl⟩, ?_⟩
                  refine wt_read rfl rfl rfl rfl (yl_nilCheck rfl rfl) ?_
                  refine wt_read rfl rfl rfl rfl (yl_fieldB rfl rfl Try.underlying54 rfl (by kernel_rfl) rfl) ?_
                  refine wt_store rfl rfl rfl (es_at2 (es_store 2 rfl rfl rfl rfl (by kernel_rfl) rfl rfl)) ⟨[_, _, _], rfl⟩ ?_
                  refine wt_nil ?_
                  refine at_keep (Keep.cons 0 rfl (Keep.cons 1 rfl (Keep.cons 3 rfl (Keep.cons 4 rfl (Keep.cons 5 rfl (Keep.cons 6 rfl (Keep.cons 13 rfl (Keep.cons 34 rfl (Keep.cons 47 rfl (Keep.cons 64 rfl Keep.nil)))))))))) ?_
                  refine at_seq ?_
                  refine at_heap (fun _ hw => hw.tail) ?_
                  refine at_heap (fun _ hw => hw.front2.front2.front2.front3) ?_
                  refine at_draw1 (.fl 0 (.fl 1 (.fl 2 (.fl 3 (.fl 4 (.fl 5 (.fl 6 (.fl 7 (.fl 8 (.fl 9 (.fl 10 (.ef2 11 (.fl 12 (.ef 13 (.fl 14 (.ef 15 .nil)))) 13 (.fl 14 (.ef 11 (.fl 12 (.ef 15 .nil)))))))))))))))) (by kernel_rfl) (by kernel_rfl) ?_
                  refine wt_read rfl rfl rfl rfl (yl_move rfl rfl) ?_
                  refine wt_read rfl rfl rfl rfl (yl_nilCheck rfl rfl) ?_
                  refine wt_read rfl rfl rfl rfl (yl_fieldB rfl rfl Try.underlying54 rfl (by kernel_rfl) rfl) ?_
                  refine wt_read rfl rfl rfl rfl (yl_load rfl rfl Try.underlying52 rfl (CellAt.bk 1 rfl rfl)) ?_
                  refine wt_read rfl rfl rfl rfl (yl_fieldB rfl rfl Try.underlying33 rfl (by kernel_rfl) rfl) ?_
                  refine wt_read rfl rfl rfl rfl (yl_load rfl rfl Try.underlying3 rfl (CellAt.bk 2 rfl rfl)) ?_
                  refine wt_read rfl rfl rfl rfl (yl_fieldB rfl rfl Try.underlying33 rfl (by kernel_rfl) rfl) ?_
                  refine wt_read rfl rfl rfl rfl (yl_load rfl rfl Try.underlying3 rfl (CellAt.bk 2 rfl rfl)) ?_
                  refine wt_read rfl rfl rfl rfl (yl_fieldB rfl rfl Try.underlying33 rfl (by kernel_rfl) rfl) ?_
                  refine wt_read rfl rfl rfl rfl (yl_load rfl rfl Try.underlying3 rfl (CellAt.bk 2 rfl rfl)) ?_
                  refine wt_read rfl rfl rfl rfl (yl_build (cs := [.int .i64 e.kind, .int .i64 e.with_, .int .i64 e.number]) rfl rfl (fun _ => by kernel_rfl)) ?_
                  refine wt_two ?_ ?_
                  ·
                    refine wt_readE rfl rfl rfl rfl (yl_lookM 0 keyOk rfl e.key rfl rfl rfl Try.underlying52 zero3) ⟨[_], rfl⟩ ?_
                    refine wt_read rfl rfl rfl rfl (yl_add rfl rfl rfl (w64 (by have := cnt_bd es e.key; omega) (by have := cnt_bd es e.key; omega))) ?_
                    refine wt_eff rfl rfl rfl rfl (ef_entry 0 keyOk rfl e.key rfl rfl rfl Try.underlying52 zero3) ?_
                    rintro _ _ ⟨born, rfl, hH⟩
                    simp only [List.set_cons_succ, List.set_cons_zero] at hH; subst hH
                    refine ⟨⟨[_], rfl⟩, ?_⟩
                    refine wt_read rfl rfl rfl rfl (yl_extract rfl rfl rfl) ?_
                    refine wt_store rfl rfl rfl (es_at0 (es_entry 0 rfl rfl rfl rfl rfl)) ⟨[_], rfl⟩ ?_
                    refine wt_nil ?_
                    refine at_keep (Keep.cons 0 rfl (Keep.cons 1 rfl (Keep.cons 3 rfl (Keep.cons 4 rfl (Keep.cons 5 rfl (Keep.cons 6 rfl (Keep.cons 13 rfl (Keep.cons 34 rfl (Keep.cons 47 rfl (Keep.cons 64 rfl Keep.nil)))))))))) ?_
                    refine at_seq ?_
                    refine at_region ?_
                    refine wl_read rfl rfl rfl (yl_move rfl rfl) ?_
                    refine wl_read rfl rfl rfl (yl_move rfl rfl) ?_
                    refine wl_read rfl rfl rfl (yl_nilCheck rfl rfl) ?_
                    refine wl_read rfl rfl rfl (yl_fieldB rfl rfl Try.underlying54 rfl (by kernel_rfl) rfl) ?_
                    refine wl_store rfl rfl (es_at2 (es_store 2 rfl rfl rfl rfl (by kernel_rfl) rfl rfl)) ?_
                    refine wl_nil ?_
                    refine at_keep (Keep.cons 0 rfl (Keep.cons 1 rfl (Keep.cons 3 rfl (Keep.cons 4 rfl (Keep.cons 5 rfl (Keep.cons 6 rfl (Keep.cons 13 rfl (Keep.cons 34 rfl (Keep.cons 47 rfl (Keep.cons 64 rfl Keep.nil)))))))))) ?_
                    refine at_seq ?_
                    refine at_region ?_
                    refine wl_read rfl rfl rfl (yl_assign rfl rfl) ?_
                    refine wl_nil ?_
                    refine at_keep (Keep.cons 0 rfl (Keep.cons 1 rfl (Keep.cons 3 rfl (Keep.cons 4 rfl (Keep.cons 5 rfl (Keep.cons 6 rfl (Keep.cons 13 rfl (Keep.cons 34 rfl (Keep.cons 47 rfl (Keep.cons 64 rfl Keep.nil)))))))))) ?_
                    refine at_retH (fun _ hw => Acc.closes hw.front1.front2.drop3 (nst_app hv).symm (cnt_put es e)) Try.func19 (res1 rfl rfl) ?_
                    have hpe : perr es e = 0 := perr0 hv hold hdup hwd
                    exact ⟨by rw [hpe], by rw [pnext_yes hpe]⟩
                  ·
                    refine wt_eff rfl rfl rfl rfl (ef_entry 0 keyOk rfl e.key rfl rfl rfl Try.underlying52 zero3) ?_
                    rintro _ _ ⟨born, rfl, hH⟩
                    simp only [List.set_cons_succ, List.set_cons_zero] at hH; subst hH
                    refine ⟨⟨[_], rfl⟩, ?_⟩
                    refine wt_read rfl rfl rfl rfl (yl_extract rfl rfl rfl) ?_
                    refine wt_readE rfl rfl rfl rfl (yl_lookME 0 keyOk rfl e.key rfl rfl rfl Try.underlying52 zero3) ⟨[_], rfl⟩ ?_
                    refine wt_read rfl rfl rfl rfl (yl_add rfl rfl rfl (w64 (by have := cnt_bd es e.key; omega) (by have := cnt_bd es e.key; omega))) ?_
                    refine wt_store rfl rfl rfl (es_at0 (es_entry 0 rfl rfl rfl rfl rfl)) ⟨[_], rfl⟩ ?_
                    refine wt_nil ?_
                    refine at_keep (Keep.cons 0 rfl (Keep.cons 1 rfl (Keep.cons 3 rfl (Keep.cons 4 rfl (Keep.cons 5 rfl (Keep.cons 6 rfl (Keep.cons 13 rfl (Keep.cons 34 rfl (Keep.cons 47 rfl (Keep.cons 64 rfl Keep.nil)))))))))) ?_
                    refine at_seq ?_
                    refine at_region ?_
                    refine wl_read rfl rfl rfl (yl_move rfl rfl) ?_
                    refine wl_read rfl rfl rfl (yl_move rfl rfl) ?_
                    refine wl_read rfl rfl rfl (yl_nilCheck rfl rfl) ?_
                    refine wl_read rfl rfl rfl (yl_fieldB rfl rfl Try.underlying54 rfl (by kernel_rfl) rfl) ?_
                    refine wl_store rfl rfl (es_at2 (es_store 2 rfl rfl rfl rfl (by kernel_rfl) rfl rfl)) ?_
                    refine wl_nil ?_
                    refine at_keep (Keep.cons 0 rfl (Keep.cons 1 rfl (Keep.cons 3 rfl (Keep.cons 4 rfl (Keep.cons 5 rfl (Keep.cons 6 rfl (Keep.cons 13 rfl (Keep.cons 34 rfl (Keep.cons 47 rfl (Keep.cons 64 rfl Keep.nil)))))))))) ?_
                    refine at_seq ?_
                    refine at_region ?_
                    refine wl_read rfl rfl rfl (yl_assign rfl rfl) ?_
                    refine wl_nil ?_
                    refine at_keep (Keep.cons 0 rfl (Keep.cons 1 rfl (Keep.cons 3 rfl (Keep.cons 4 rfl (Keep.cons 5 rfl (Keep.cons 6 rfl (Keep.cons 13 rfl (Keep.cons 34 rfl (Keep.cons 47 rfl (Keep.cons 64 rfl Keep.nil)))))))))) ?_
                    refine at_retH (fun _ hw => Acc.closes hw.front1.front2.drop3 (nst_app hv).symm (cnt_put es e)) Try.func19 (res1 rfl rfl) ?_
                    have hpe : perr es e = 0 := perr0 hv hold hdup hwd
                    exact ⟨by rw [hpe], by rw [pnext_yes hpe]⟩
        ·
          rw [decide_eq_false hh]
          refine wl_read rfl rfl rfl (yl_move rfl rfl) ?_
          refine wl_skip rfl rfl rfl ?_
          refine wl_skip rfl rfl rfl ?_
          refine wl_skip rfl rfl rfl ?_
          refine wl_read rfl rfl rfl (yl_pickF rfl rfl rfl) ?_
          refine wl_nil ?_
          refine at_keep (Keep.cons 0 rfl (Keep.cons 1 rfl (Keep.cons 3 rfl (Keep.cons 4 rfl (Keep.cons 5 rfl (Keep.cons 13 rfl (Keep.cons 34 rfl (Keep.cons 47 rfl Keep.nil)))))))) ?_
          refine at_false rfl ?_
          refine at_skip ?_
          refine at_seq ?_
          have hdup : ¬ (e.kind ≠ 1 ∧ 0 < cnt es e.key) := fun h => hh h.2
          refine at_draw0 (.fl 0 (.fl 1 (.fl 2 (.fl 3 (.fl 4 (.fl 5 (.fl 7 (.fl 8 (.ef 6 (.fl 9 (.fl 10 (.fl 11 .nil)))))))))))) (by kernel_rfl) (by kernel_rfl) ?_
          refine wt_read rfl rfl rfl rfl (yl_move rfl rfl) ?_
          refine wt_read rfl rfl rfl rfl (yl_nilCheck rfl rfl) ?_
          refine wt_read rfl rfl rfl rfl (yl_fieldB rfl rfl Try.underlying54 rfl (by kernel_rfl) rfl) ?_
          refine wt_read rfl rfl rfl rfl (yl_load rfl rfl Try.underlying3 rfl (CellAt.bk 1 rfl rfl)) ?_
          refine wt_read rfl rfl rfl rfl (yl_fieldB rfl rfl Try.underlying33 rfl (by kernel_rfl) rfl) ?_
          refine wt_read rfl rfl rfl rfl (yl_load rfl rfl Try.underlying3 rfl (CellAt.bk 0 rfl rfl)) ?_
          refine wt_read rfl rfl rfl rfl (yl_fieldB rfl rfl Try.underlying33 rfl (by kernel_rfl) rfl) ?_
          refine wt_read rfl rfl rfl rfl (yl_load rfl rfl Try.underlying3 rfl (CellAt.bk 0 rfl rfl)) ?_
          refine wt_call rfl rfl rfl rfl (en_call rfl rfl) (sign_fn e.kind _ _) ?_
          rintro _ _ ⟨rfl, rfl⟩
          refine ⟨⟨[], rfl⟩, ?_⟩
          refine wt_read rfl rfl rfl rfl (yl_mul rfl rfl rfl (mul_sg hv)) ?_
          refine wt_read rfl rfl rfl rfl (yl_add rfl rfl rfl (add_nst hg hv)) ?_
          refine wt_read rfl rfl rfl rfl (yl_assign rfl rfl) ?_
          refine wt_nil ?_
          refine at_keep (Keep.cons 0 rfl (Keep.cons 1 rfl (Keep.cons 3 rfl (Keep.cons 4 rfl (Keep.cons 5 rfl (Keep.cons 6 rfl (Keep.cons 13 rfl (Keep.cons 34 rfl (Keep.cons 47 rfl Keep.nil))))))))) ?_
          refine at_seq ?_
          refine at_seq ?_
          refine at_region ?_
          refine wl_read rfl rfl rfl (yl_move rfl rfl) ?_
          refine wl_split rfl rfl rfl (yp_lss rfl rfl rfl) ?_ ?_
          · intro h9_1
            refine wl_read rfl rfl rfl (yl_move rfl rfl) ?_
            refine wl_skip rfl rfl rfl ?_
            refine wl_skip rfl rfl rfl ?_
            refine wl_read rfl rfl rfl (yl_pickT rfl rfl rfl) ?_
            refine wl_nil ?_
            refine at_keep (Keep.cons 0 rfl (Keep.cons 1 rfl (Keep.cons 3 rfl (Keep.cons 4 rfl (Keep.cons 5 rfl (Keep.cons 6 rfl (Keep.cons 13 rfl (Keep.cons 34 rfl (Keep.cons 47 rfl (Keep.cons 64 rfl Keep.nil)))))))))) ?_
            refine at_true rfl ?_
            refine at_seq ?_
            have hwd : wide (nst es e) := by unfold wide; omega
            refine at_region ?_
            refine wl_read rfl rfl rfl (yl_assign rfl rfl) ?_
            refine wl_nil ?_
            refine at_keep (Keep.cons 0 rfl (Keep.cons 1 rfl (Keep.cons 3 rfl (Keep.cons 4 rfl (Keep.cons 5 rfl (Keep.cons 6 rfl (Keep.cons 13 rfl (Keep.cons 34 rfl (Keep.cons 47 rfl (Keep.cons 64 rfl Keep.nil)))))))))) ?_
            refine at_retH (fun _ hw => Acc.closes hw.front3.front3.front3.drop3 rfl rfl) Try.func19 (res1 rfl rfl) ?_
            have hpe : perr es e = 2 := perr2 hv hold hdup hwd
            exact ⟨by rw [hpe], by rw [pnext_no (by rw [hpe]; decide)]⟩
          · intro h9_1
            refine wl_read rfl rfl rfl (yl_move rfl rfl) ?_
            refine wl_read rfl rfl rfl (yl_move rfl rfl) ?_
            refine wl_split rfl rfl rfl (yp_gtr rfl rfl rfl) ?_ ?_
            · intro h9_4
              refine wl_read rfl rfl rfl (yl_pickF rfl rfl rfl) ?_
              refine wl_nil ?_
              refine at_keep (Keep.cons 0 rfl (Keep.cons 1 rfl (Keep.cons 3 rfl (Keep.cons 4 rfl (Keep.cons 5 rfl (Keep.cons 6 rfl (Keep.cons 13 rfl (Keep.cons 34 rfl (Keep.cons 47 rfl (Keep.cons 64 rfl Keep.nil)))))))))) ?_
              refine at_true rfl ?_
              refine at_seq ?_
              have hwd : wide (nst es e) := by unfold wide; omega
              refine at_region ?_
              refine wl_read rfl rfl rfl (yl_assign rfl rfl) ?_
              refine wl_nil ?_
              refine at_keep (Keep.cons 0 rfl (Keep.cons 1 rfl (Keep.cons 3 rfl (Keep.cons 4 rfl (Keep.cons 5 rfl (Keep.cons 6 rfl (Keep.cons 13 rfl (Keep.cons 34 rfl (Keep.cons 47 rfl (Keep.cons 64 rfl Keep.nil)))))))))) ?_
              refine at_retH (fun _ hw => Acc.closes hw.front3.front3.front3.drop3 rfl rfl) Try.func19 (res1 rfl rfl) ?_
              have hpe : perr es e = 2 := perr2 hv hold hdup hwd
              exact ⟨by rw [hpe], by rw [pnext_no (by rw [hpe]; decide)]⟩
            · intro h9_4
              refine wl_read rfl rfl rfl (yl_pickF rfl rfl rfl) ?_
              refine wl_nil ?_
              refine at_keep (Keep.cons 0 rfl (Keep.cons 1 rfl (Keep.cons 3 rfl (Keep.cons 4 rfl (Keep.cons 5 rfl (Keep.cons 6 rfl (Keep.cons 13 rfl (Keep.cons 34 rfl (Keep.cons 47 rfl (Keep.cons 64 rfl Keep.nil)))))))))) ?_
              refine at_false rfl ?_
              refine at_skip ?_
              refine at_seq ?_
              have hwd : ¬ wide (nst es e) := by unfold wide; omega
              refine at_heap (fun _ hw => hw.front1.front2) ?_
              refine at_draw2 (.fl 0 (.fl 1 (.fl 2 (.fl 3 (.fl 5 (.ef2 4 (.ef 6 (.ef 7 (.fl 8 (.fl 9 (.ef 10 .nil))))) 6 (.ef 4 (.ef 7 (.fl 8 (.fl 9 (.ef 10 .nil))))))))))) (by kernel_rfl) (by kernel_rfl) ?_
              refine wt_read rfl rfl rfl rfl (yl_move rfl rfl) ?_
              refine wt_read rfl rfl rfl rfl (yl_move rfl rfl) ?_
              refine wt_read rfl rfl rfl rfl (yl_nilCheck rfl rfl) ?_
              refine wt_read rfl rfl rfl rfl (yl_fieldB rfl rfl Try.underlying54 rfl (by kernel_rfl) rfl) ?_
              refine wt_read rfl rfl rfl rfl (yl_loadBk 0 rfl rfl rfl Try.underlying33 rfl (by kernel_rfl)) ?_
              refine wt_two ?_ ?_
              ·
                refine wt_readE rfl rfl rfl rfl (yl_load rfl rfl Try.underlying27 rfl (CellAt.bk 1 rfl rfl)) ⟨[_, _], rfl⟩ ?_
                refine wt_eff rfl rfl rfl rfl (ef_buildSlice (e := 33) [e] rfl rfl (fun _ => by kernel_rfl) rfl rfl) ?_
                rintro _ _ ⟨T11_6, rfl, rfl⟩
                refine ⟨⟨[_, _, _], rfl⟩, ?_⟩
                refine wt_eff rfl rfl rfl rfl (ef_append (ys := [e]) 1 rfl rfl rfl rfl (Rd.of_sl 0 rfl) Try.underlying27 info33 rfl rfl (by simp only [List.length_singleton, maxLen]; omega) (by simp only [List.length_singleton]; omega)) ?_
                rintro _ _ ⟨A2, c2, rfl, hH⟩
                simp only [List.set_cons_succ, List.set_cons_zero] at hH; subst hH
                refine ⟨⟨[_, _, _], rfl⟩, ?_⟩
                refine wt_read rfl rfl rfl rfl (yl_nilCheck rfl rfl) ?_
                refine wt_read rfl rfl rfl rfl (yl_fieldB rfl rfl Try.underlying54 rfl (by kernel_rfl) rfl) ?_
                refine wt_store rfl rfl rfl (es_at2 (es_store 2 rfl rfl rfl rfl (by kernel_rfl) rfl rfl)) ⟨[_, _, _], rfl⟩ ?_
                refine wt_nil ?_
                refine at_keep (Keep.cons 0 rfl (Keep.cons 1 rfl (Keep.cons 3 rfl (Keep.cons 4 rfl (Keep.cons 5 rfl (Keep.cons 6 rfl (Keep.cons 13 rfl (Keep.cons 34 rfl (Keep.cons 47 rfl (Keep.cons 64 rfl Keep.nil)))))))))) ?_
                refine at_seq ?_
                refine at_heap (fun _ hw => hw.tail) ?_
                refine at_heap (fun _ hw => hw.front2.front2.front2.front3) ?_
                refine at_draw1 (.fl 0 (.fl 1 (.fl 2 (.fl 3 (.fl 4 (.fl 5 (.fl 6 (.fl 7 (.fl 8 (.fl 9 (.fl 10 (.ef2 11 (.fl 12 (.ef 13 (.fl 14 (.ef 15 .nil)))) 13 (.fl 14 (.ef 11 (.fl 12 (.ef 15 .nil)))))))))))))))) (by kernel_rfl) (by kernel_rfl) ?_
                refine wt_read rfl rfl rfl rfl (yl_move rfl rfl) ?_
                refine wt_read rfl rfl rfl rfl (yl_nilCheck rfl rfl) ?_
                refine wt_read rfl rfl rfl rfl (yl_fieldB rfl rfl Try.underlying54 rfl (by kernel_rfl) rfl) ?_
                refine wt_read rfl rfl rfl rfl (yl_load rfl rfl Try.underlying52 rfl (CellAt.bk 1 rfl rfl)) ?_
                refine wt_read rfl rfl rfl rfl (yl_fieldB rfl rfl Try.underlying33 rfl (by kernel_rfl) rfl) ?_
                refine wt_read rfl rfl rfl rfl (yl_load rfl rfl Try.underlying3 rfl (CellAt.bk 2 rfl rfl)) ?_
                refine wt_read rfl rfl rfl rfl (yl_fieldB rfl rfl Try.underlying33 rfl (by kernel_rfl) rfl) ?_
                refine wt_read rfl rfl rfl rfl (yl_load rfl rfl Try.underlying3 rfl (CellAt.bk 2 rfl rfl)) ?_
                refine wt_read rfl rfl rfl rfl (yl_fieldB rfl rfl Try.underlying33 rfl (by kernel_rfl) rfl) ?_
                refine wt_read rfl rfl rfl rfl (yl_load rfl rfl Try.underlying3 rfl (CellAt.bk 2 rfl rfl)) ?_
                refine wt_read rfl rfl rfl rfl (yl_build (cs := [.int .i64 e.kind, .int .i64 e.with_, .int .i64 e.number]) rfl rfl (fun _ => by kernel_rfl)) ?_
                refine wt_two ?_ ?_
                ·
                  refine wt_readE rfl rfl rfl rfl (yl_lookM 0 keyOk rfl e.key rfl rfl rfl Try.underlying52 zero3) ⟨[_], rfl⟩ ?_
                  refine wt_read rfl rfl rfl rfl (yl_add rfl rfl rfl (w64 (by have := cnt_bd es e.key; omega) (by have := cnt_bd es e.key; omega))) ?_
                  refine wt_eff rfl rfl rfl rfl (ef_entry 0 keyOk rfl e.key rfl rfl rfl Try.underlying52 zero3) ?_
                  rintro _ _ ⟨born, rfl, hH⟩
                  simp only [List.set_cons_succ, List.set_cons_zero] at hH; subst hH
                  refine ⟨⟨[_], rfl⟩, ?_⟩
                  refine wt_read rfl rfl rfl rfl (yl_extract rfl rfl rfl) ?_
                  refine wt_store rfl rfl rfl (es_at0 (es_entry 0 rfl rfl rfl rfl rfl)) ⟨[_], rfl⟩ ?_
                  refine wt_nil ?_
                  refine at_keep (Keep.cons 0 rfl (Keep.cons 1 rfl (Keep.cons 3 rfl (Keep.cons 4 rfl (Keep.cons 5 rfl (Keep.cons 6 rfl (Keep.cons 13 rfl (Keep.cons 34 rfl (Keep.cons 47 rfl (Keep.cons 64 rfl Keep.nil)))))))))) ?_
                  refine at_seq ?_
                  refine at_region ?_
                  refine wl_read rfl rfl rfl (yl_move rfl rfl) ?_
                  refine wl_read rfl rfl rfl (yl_move rfl rfl) ?_
                  refine wl_read rfl rfl rfl (yl_nilCheck rfl rfl) ?_
                  refine wl_read rfl rfl rfl (yl_fieldB rfl rfl Try.underlying54 rfl (by kernel_rfl) rfl) ?_
                  refine wl_store rfl rfl (es_at2 (es_store 2 rfl rfl rfl rfl (by kernel_rfl) rfl rfl)) ?_
                  refine wl_nil ?_
                  refine at_keep (Keep.cons 0 rfl (Keep.cons 1 rfl (Keep.cons 3 rfl (Keep.cons 4 rfl (Keep.cons 5 rfl (Keep.cons 6 rfl (Keep.cons 13 rfl (Keep.cons 34 rfl (Keep.cons 47 rfl (Keep.cons 64 rfl Keep.nil)))))))))) ?_
                  refine at_seq ?_
                  refine at_region ?_
                  refine wl_read rfl rfl rfl (yl_assign rfl rfl) ?_
                  refine wl_nil ?_
                  refine at_keep (Keep.cons 0 rfl (Keep.cons 1 rfl (Keep.cons 3 rfl (Keep.cons 4 rfl (Keep.cons 5 rfl (Keep.cons 6 rfl (Keep.cons 13 rfl (Keep.cons 34 rfl (Keep.cons 47 rfl (Keep.cons 64 rfl Keep.nil)))))))))) ?_
                  refine at_retH (fun _ hw => Acc.closes hw.front1.front2.drop3 (nst_app hv).symm (cnt_put es e)) Try.func19 (res1 rfl rfl) ?_
                  have hpe : perr es e = 0 := perr0 hv hold hdup hwd
                  exact ⟨by rw [hpe], by rw [pnext_yes hpe]⟩
                ·
                  refine wt_eff rfl rfl rfl rfl (ef_entry 0 keyOk rfl e.key rfl rfl rfl Try.underlying52 zero3) ?_
                  rintro _ _ ⟨born, rfl, hH⟩
                  simp only [List.set_cons_succ, List.set_cons_zero] at hH; subst hH
                  refine ⟨⟨[_], rfl⟩, ?_⟩
                  refine wt_read rfl rfl rfl rfl (yl_extract rfl rfl rfl) ?_
                  refine wt_readE rfl rfl rfl rfl (yl_lookME 0 keyOk rfl e.key rfl rfl rfl Try.underlying52 zero3) ⟨[_], rfl⟩ ?_
                  refine wt_read rfl rfl rfl rfl (yl_add rfl rfl rfl (w64 (by have := cnt_bd es e.key; omega) (by have := cnt_bd es e.key; omega))) ?_
                  refine wt_store rfl rfl rfl (es_at0 (es_entry 0 rfl rfl rfl rfl rfl)) ⟨[_], rfl⟩ ?_
                  refine wt_nil ?_
                  refine at_keep (Keep.cons 0 rfl (Keep.cons 1 rfl (Keep.cons 3 rfl (Keep.cons 4 rfl (Keep.cons 5 rfl (Keep.cons 6 rfl (Keep.cons 13 rfl (Keep.cons 34 rfl (Keep.cons 47 rfl (Keep.cons 64 rfl Keep.nil)))))))))) ?_
                  refine at_seq ?_
                  refine at_region ?_
                  refine wl_read rfl rfl rfl (yl_move rfl rfl) ?_
                  refine wl_read rfl rfl rfl (yl_move rfl rfl) ?_
                  refine wl_read rfl rfl rfl (yl_nilCheck rfl rfl) ?_
                  refine wl_read rfl rfl rfl (yl_fieldB rfl rfl Try.underlying54 rfl (by kernel_rfl) rfl) ?_
                  refine wl_store rfl rfl (es_at2 (es_store 2 rfl rfl rfl rfl (by kernel_rfl) rfl rfl)) ?_
                  refine wl_nil ?_
                  refine at_keep (Keep.cons 0 rfl (Keep.cons 1 rfl (Keep.cons 3 rfl (Keep.cons 4 rfl (Keep.cons 5 rfl (Keep.cons 6 rfl (Keep.cons 13 rfl (Keep.cons 34 rfl (Keep.cons 47 rfl (Keep.cons 64 rfl Keep.nil)))))))))) ?_
                  refine at_seq ?_
                  refine at_region ?_
                  refine wl_read rfl rfl rfl (yl_assign rfl rfl) ?_
                  refine wl_nil ?_
                  refine at_keep (Keep.cons 0 rfl (Keep.cons 1 rfl (Keep.cons 3 rfl (Keep.cons 4 rfl (Keep.cons 5 rfl (Keep.cons 6 rfl (Keep.cons 13 rfl (Keep.cons 34 rfl (Keep.cons 47 rfl (Keep.cons 64 rfl Keep.nil)))))))))) ?_
                  refine at_retH (fun _ hw => Acc.closes hw.front1.front2.drop3 (nst_app hv).symm (cnt_put es e)) Try.func19 (res1 rfl rfl) ?_
                  have hpe : perr es e = 0 := perr0 hv hold hdup hwd
                  exact ⟨by rw [hpe], by rw [pnext_yes hpe]⟩
              ·
                refine wt_eff rfl rfl rfl rfl (ef_buildSlice (e := 33) [e] rfl rfl (fun _ => by kernel_rfl) rfl rfl) ?_
                rintro _ _ ⟨T11_6, rfl, rfl⟩
                refine ⟨⟨[_, _, _], rfl⟩, ?_⟩
                refine wt_readE rfl rfl rfl rfl (yl_load rfl rfl Try.underlying27 rfl (CellAt.bk 2 rfl rfl)) ⟨[_, _, _], rfl⟩ ?_
                refine wt_eff rfl rfl rfl rfl (ef_append (ys := [e]) 1 rfl rfl rfl rfl (Rd.of_sl 0 rfl) Try.underlying27 info33 rfl rfl (by simp only [List.length_singleton, maxLen]; omega) (by simp only [List.length_singleton]; omega)) ?_
                rintro _ _ ⟨A2, c2, rfl, hH⟩
                simp only [List.set_cons_succ, List.set_cons_zero] at hH; subst hH
                refine ⟨⟨[_, _, _], rfl⟩, ?_⟩
                refine wt_read rfl rfl rfl rfl (yl_nilCheck rfl rfl) ?_
                refine wt_read rfl rfl rfl rfl (yl_fieldB rfl rfl Try.underlying54 rfl (by kernel_rfl) rfl) ?_
                refine wt_store rfl rfl rfl (es_at2 (es_store 2 rfl rfl rfl rfl (by kernel_rfl) rfl rfl)) ⟨[_, _, _], rfl⟩ ?_
                refine wt_nil ?_
                refine at_keep (Keep.cons 0 rfl (Keep.cons 1 rfl (Keep.cons 3 rfl (Keep.cons 4 rfl (Keep.cons 5 rfl (Keep.cons 6 rfl (Keep.cons 13 rfl (Keep.cons 34 rfl (Keep.cons 47 rfl (Keep.cons 64 rfl Keep.nil)))))))))) ?_
                refine at_seq ?_
                refine at_heap (fun _ hw => hw.tail) ?_
                refine at_heap (fun _ hw => hw.front2.front2.front2.front3) ?_
                refine at_draw1 (.fl 0 (.fl 1 (.fl 2 (.fl 3 (.fl 4 (.fl 5 (.fl 6 (.fl 7 (.fl 8 (.fl 9 (.fl 10 (.ef2 11 (.fl 12 (.ef 13 (.fl 14 (.ef 15 .nil)))) 13 (.fl 14 (.ef 11 (.fl 12 (.ef 15 .nil)))))))))))))))) (by kernel_rfl) (by kernel_rfl) ?_
                refine wt_read rfl rfl rfl rfl (yl_move rfl rfl) ?_
                refine wt_read rfl rfl rfl rfl (yl_nilCheck rfl rfl) ?_
                refine wt_read rfl rfl rfl rfl (yl_fieldB rfl rfl Try.underlying54 rfl (by kernel_rfl) rfl) ?_
                refine wt_read rfl rfl rfl rfl (yl_load rfl rfl Try.underlying52 rfl (CellAt.bk 1 rfl rfl)) ?_
                refine wt_read rfl rfl rfl rfl (yl_fieldB rfl rfl Try.underlying33 rfl (by kernel_rfl) rfl) ?_
                refine wt_read rfl rfl rfl rfl (yl_load rfl rfl Try.underlying3 rfl (CellAt.bk 2 rfl rfl)) ?_
                refine wt_read rfl rfl rfl rfl (yl_fieldB rfl rfl Try.underlying33 rfl (by kernel_rfl) rfl) ?_
                refine wt_read rfl rfl rfl rfl (yl_load rfl rfl Try.underlying3 rfl (CellAt.bk 2 rfl rfl)) ?_
                refine wt_read rfl rfl rfl rfl (yl_fieldB rfl rfl Try.underlying33 rfl (by kernel_rfl) rfl) ?_
                refine wt_read rfl rfl rfl rfl (yl_load rfl rfl Try.underlying3 rfl (CellAt.bk 2 rfl rfl)) ?_
                refine wt_read rfl rfl rfl rfl (yl_build (cs := [.int .i64 e.kind, .int .i64 e.with_, .int .i64 e.number]) rfl rfl (fun _ => by kernel_rfl)) ?_
                refine wt_two ?_ ?_
                ·
                  refine wt_readE rfl rfl rfl rfl (yl_lookM 0 keyOk rfl e.key rfl rfl rfl Try.underlying52 zero3) ⟨[_], rfl⟩ ?_
                  refine wt_read rfl rfl rfl rfl (yl_add rfl rfl rfl (w64 (by have := cnt_bd es e.key; omega) (by have := cnt_bd es e.key; omega))) ?_
                  refine wt_eff rfl rfl rfl rfl (ef_entry 0 keyOk rfl e.key rfl rfl rfl Try.underlying52 zero3) ?_
                  rintro _ _ ⟨born, rfl, hH⟩
                  simp only [List.set_cons_succ, List.set_cons_zero] at hH; subst hH
                  refine ⟨⟨[_], rfl⟩, ?_⟩
                  refine wt_read rfl rfl rfl rfl (yl_extract rfl rfl rfl) ?_
                  refine wt_store rfl rfl rfl (es_at0 (es_entry 0 rfl rfl rfl rfl rfl)) ⟨[_], rfl⟩ ?_
                  refine wt_nil ?_
                  refine at_keep (Keep.cons 0 rfl (Keep.cons 1 rfl (Keep.cons 3 rfl (Keep.cons 4 rfl (Keep.cons 5 rfl (Keep.cons 6 rfl (Keep.cons 13 rfl (Keep.cons 34 rfl (Keep.cons 47 rfl (Keep.cons 64 rfl Keep.nil)))))))))) ?_
                  refine at_seq ?_
                  refine at_region ?_
                  refine wl_read rfl rfl rfl (yl_move rfl rfl) ?_
                  refine wl_read rfl rfl rfl (yl_move rfl rfl) ?_
                  refine wl_read rfl rfl rfl (yl_nilCheck rfl rfl) ?_
                  refine wl_read rfl rfl rfl (yl_fieldB rfl rfl Try.underlying54 rfl (by kernel_rfl) rfl) ?_
                  refine wl_store rfl rfl (es_at2 (es_store 2 rfl rfl rfl rfl (by kernel_rfl) rfl rfl)) ?_
                  refine wl_nil ?_
                  refine at_keep (Keep.cons 0 rfl (Keep.cons 1 rfl (Keep.cons 3 rfl (Keep.cons 4 rfl (Keep.cons 5 rfl (Keep.cons 6 rfl (Keep.cons 13 rfl (Keep.cons 34 rfl (Keep.cons 47 rfl (Keep.cons 64 rfl Keep.nil)))))))))) ?_
                  refine at_seq ?_
                  refine at_region ?_
                  refine wl_read rfl rfl rfl (yl_assign rfl rfl) ?_
                  refine wl_nil ?_
                  refine at_keep (Keep.cons 0 rfl (Keep.cons 1 rfl (Keep.cons 3 rfl (Keep.cons 4 rfl (Keep.cons 5 rfl (Keep.cons 6 rfl (Keep.cons 13 rfl (Keep.cons 34 rfl (Keep.cons 47 rfl (Keep.cons 64 rfl Keep.nil)))))))))) ?_
                  refine at_retH (fun _ hw => Acc.closes hw.front1.front2.drop3 (nst_app hv).symm (cnt_put es e)) Try.func19 (res1 rfl rfl) ?_
                  have hpe : perr es e = 0 := perr0 hv hold hdup hwd
                  exact ⟨by rw [hpe], by rw [pnext_yes hpe]⟩
                ·
                  refine wt_eff rfl rfl rfl rfl (ef_entry 0 keyOk rfl e.key rfl rfl rfl Try.underlying52 zero3) ?_
                  rintro _ _ ⟨born, rfl, hH⟩
                  simp only [List.set_cons_succ, List.set_cons_zero] at hH; subst hH
                  refine ⟨⟨[_], rfl⟩, ?_⟩
                  refine wt_read rfl rfl rfl rfl (yl_extract rfl rfl rfl) ?_
                  refine wt_readE rfl rfl rfl rfl (yl_lookME 0 keyOk rfl e.key rfl rfl rfl Try.underlying52 zero3) ⟨[_], rfl⟩ ?_
                  refine wt_read rfl rfl rfl rfl (yl_add rfl rfl rfl (w64 (by have := cnt_bd es e.key; omega) (by have := cnt_bd es e.key; omega))) ?_
                  refine wt_store rfl rfl rfl (es_at0 (es_entry 0 rfl rfl rfl rfl rfl)) ⟨[_], rfl⟩ ?_
                  refine wt_nil ?_
                  refine at_keep (Keep.cons 0 rfl (Keep.cons 1 rfl (Keep.cons 3 rfl (Keep.cons 4 rfl (Keep.cons 5 rfl (Keep.cons 6 rfl (Keep.cons 13 rfl (Keep.cons 34 rfl (Keep.cons 47 rfl (Keep.cons 64 rfl Keep.nil)))))))))) ?_
                  refine at_seq ?_
                  refine at_region ?_
                  refine wl_read rfl rfl rfl (yl_move rfl rfl) ?_
                  refine wl_read rfl rfl rfl (yl_move rfl rfl) ?_
                  refine wl_read rfl rfl rfl (yl_nilCheck rfl rfl) ?_
                  refine wl_read rfl rfl rfl (yl_fieldB rfl rfl Try.underlying54 rfl (by kernel_rfl) rfl) ?_
                  refine wl_store rfl rfl (es_at2 (es_store 2 rfl rfl rfl rfl (by kernel_rfl) rfl rfl)) ?_
                  refine wl_nil ?_
                  refine at_keep (Keep.cons 0 rfl (Keep.cons 1 rfl (Keep.cons 3 rfl (Keep.cons 4 rfl (Keep.cons 5 rfl (Keep.cons 6 rfl (Keep.cons 13 rfl (Keep.cons 34 rfl (Keep.cons 47 rfl (Keep.cons 64 rfl Keep.nil)))))))))) ?_
                  refine at_seq ?_
                  refine at_region ?_
                  refine wl_read rfl rfl rfl (yl_assign rfl rfl) ?_
                  refine wl_nil ?_
                  refine at_keep (Keep.cons 0 rfl (Keep.cons 1 rfl (Keep.cons 3 rfl (Keep.cons 4 rfl (Keep.cons 5 rfl (Keep.cons 6 rfl (Keep.cons 13 rfl (Keep.cons 34 rfl (Keep.cons 47 rfl (Keep.cons 64 rfl Keep.nil)))))))))) ?_
                  refine at_retH (fun _ hw => Acc.closes hw.front1.front2.drop3 (nst_app hv).symm (cnt_put es e)) Try.func19 (res1 rfl rfl) ?_
                  have hpe : perr es e = 0 := perr0 hv hold hdup hwd
                  exact ⟨by rw [hpe], by rw [pnext_yes hpe]⟩
    · intro h4_1
      refine wt_read rfl rfl rfl rfl (yl_move rfl rfl) ?_
      refine wt_skip rfl rfl rfl rfl ?_
      refine wt_skip rfl rfl rfl rfl ?_
      refine wt_skip rfl rfl rfl rfl ?_
      refine wt_skip rfl rfl rfl rfl ?_
      refine wt_skip rfl rfl rfl rfl ?_
      refine wt_skip rfl rfl rfl rfl ?_
      refine wt_skip rfl rfl rfl rfl ?_
      refine wt_skip rfl rfl rfl rfl ?_
      refine wt_skip rfl rfl rfl rfl ?_
      refine wt_skip rfl rfl rfl rfl ?_
      refine wt_skip rfl rfl rfl rfl ?_
      refine wt_skip rfl rfl rfl rfl ?_
      refine wt_read rfl rfl rfl rfl (yl_pickF rfl rfl rfl) ?_
      refine wt_nil ?_
      refine at_keep (Keep.cons 0 rfl (Keep.cons 1 rfl (Keep.cons 3 rfl (Keep.cons 4 rfl (Keep.cons 5 rfl (Keep.cons 13 rfl (Keep.cons 34 rfl Keep.nil))))))) ?_
      refine at_false rfl ?_
      refine at_skip ?_
      refine at_seq ?_
      refine at_seq ?_
      have hold : ¬ old es e.month := fun h => by have := (old_last hg _).1 h; omega
      refine at_region ?_
      refine wl_read rfl rfl rfl (yl_move rfl rfl) ?_
      refine wl_read rfl rfl rfl (yl_fieldB rfl rfl Try.underlying33 rfl (by kernel_rfl) rfl) ?_
      refine wl_read rfl rfl rfl (yl_load rfl rfl Try.underlying3 rfl (CellAt.bk 0 rfl rfl)) ?_
      refine wl_read rfl rfl rfl (yl_fieldB rfl rfl Try.underlying33 rfl (by kernel_rfl) rfl) ?_
      refine wl_read rfl rfl rfl (yl_load rfl rfl Try.underlying3 rfl (CellAt.bk 0 rfl rfl)) ?_
      refine wl_read rfl rfl rfl (yl_fieldB rfl rfl Try.underlying33 rfl (by kernel_rfl) rfl) ?_
      refine wl_read rfl rfl rfl (yl_load rfl rfl Try.underlying3 rfl (CellAt.bk 0 rfl rfl)) ?_
      refine wl_call rfl rfl rfl (en_call rfl rfl) (has_at es g _ _ 1 3 rfl rfl e.key) ?_
      rintro _ _ ⟨rfl, rfl⟩
      rcases Classical.em (0 < cnt es e.key) with hh | hh
      ·
        rw [decide_eq_true hh]
        refine wl_read rfl rfl rfl (yl_move rfl rfl) ?_
        refine wl_read rfl rfl rfl (yl_fieldB rfl rfl Try.underlying33 rfl (by kernel_rfl) rfl) ?_
        refine wl_read rfl rfl rfl (yl_load rfl rfl Try.underlying3 rfl (CellAt.bk 0 rfl rfl)) ?_
        refine wl_split rfl rfl rfl (yp_neq rfl rfl rfl) ?_ ?_
        · intro h6_11
          refine wl_read rfl rfl rfl (yl_pickT rfl rfl rfl) ?_
          refine wl_nil ?_
          refine at_keep (Keep.cons 0 rfl (Keep.cons 1 rfl (Keep.cons 3 rfl (Keep.cons 4 rfl (Keep.cons 5 rfl (Keep.cons 13 rfl (Keep.cons 34 rfl (Keep.cons 47 rfl Keep.nil)))))))) ?_
          refine at_true rfl ?_
          refine at_seq ?_
          have hdup : e.kind ≠ 1 ∧ 0 < cnt es e.key := ⟨h6_11, hh⟩
          refine at_region ?_
          refine wl_read rfl rfl rfl (yl_assign rfl rfl) ?_
          refine wl_nil ?_
          refine at_keep (Keep.cons 0 rfl (Keep.cons 1 rfl (Keep.cons 3 rfl (Keep.cons 4 rfl (Keep.cons 5 rfl (Keep.cons 13 rfl (Keep.cons 34 rfl (Keep.cons 47 rfl Keep.nil)))))))) ?_
          refine at_retH (fun _ hw => Acc.closes hw.front3.front3.front3.drop3 rfl rfl) Try.func19 (res1 rfl rfl) ?_
          have hpe : perr es e = 10 := perr10 hv hold hdup
          exact ⟨by rw [hpe], by rw [pnext_no (by rw [hpe]; decide)]⟩
        · intro h6_11
          refine wl_read rfl rfl rfl (yl_pickT rfl rfl rfl) ?_
          refine wl_nil ?_
          refine at_keep (Keep.cons 0 rfl (Keep.cons 1 rfl (Keep.cons 3 rfl (Keep.cons 4 rfl (Keep.cons 5 rfl (Keep.cons 13 rfl (Keep.cons 34 rfl (Keep.cons 47 rfl Keep.nil)))))))) ?_
          refine at_false rfl ?_
          refine at_skip ?_
          refine at_seq ?_
          have hdup : ¬ (e.kind ≠ 1 ∧ 0 < cnt es e.key) := fun h => h6_11 h.1
          refine at_draw0 (.fl 0 (.fl 1 (.fl 2 (.fl 3 (.fl 4 (.fl 5 (.fl 7 (.fl 8 (.ef 6 (.fl 9 (.fl 10 (.fl 11 .nil)))))))))))) (by kernel_rfl) (by kernel_rfl) ?_
          refine wt_read rfl rfl rfl rfl (yl_move rfl rfl) ?_
          refine wt_read rfl rfl rfl rfl (yl_nilCheck rfl rfl) ?_
          refine wt_read rfl rfl rfl rfl (yl_fieldB rfl rfl Try.underlying54 rfl (by kernel_rfl) rfl) ?_
          refine wt_read rfl rfl rfl rfl (yl_load rfl rfl Try.underlying3 rfl (CellAt.bk 1 rfl rfl)) ?_
          refine wt_read rfl rfl rfl rfl (yl_fieldB rfl rfl Try.underlying33 rfl (by kernel_rfl) rfl) ?_
          refine wt_read rfl rfl rfl rfl (yl_load rfl rfl Try.underlying3 rfl (CellAt.bk 0 rfl rfl)) ?_
          refine wt_read rfl rfl rfl rfl (yl_fieldB rfl rfl Try.underlying33 rfl (by kernel_rfl) rfl) ?_
          refine wt_read rfl rfl rfl rfl (yl_load rfl rfl Try.underlying3 rfl (CellAt.bk 0 rfl rfl)) ?_
          refine wt_call rfl rfl rfl rfl (en_call rfl rfl) (sign_fn e.kind _ _) ?_
          rintro _ _ ⟨rfl, rfl⟩
          refine ⟨⟨[], rfl⟩, ?_⟩
          refine wt_read rfl rfl rfl rfl (yl_mul rfl rfl rfl (mul_sg hv)) ?_
          refine wt_read rfl rfl rfl rfl (yl_add rfl rfl rfl (add_nst hg hv)) ?_
          refine wt_read rfl rfl rfl rfl (yl_assign rfl rfl) ?_
          refine wt_nil ?_
          refine at_keep (Keep.cons 0 rfl (Keep.cons 1 rfl (Keep.cons 3 rfl (Keep.cons 4 rfl (Keep.cons 5 rfl (Keep.cons 6 rfl (Keep.cons 13 rfl (Keep.cons 34 rfl (Keep.cons 47 rfl Keep.nil))))))))) ?_
          refine at_seq ?_
          refine at_seq ?_
          refine at_region ?_
          refine wl_read rfl rfl rfl (yl_move rfl rfl) ?_
          refine wl_split rfl rfl rfl (yp_lss rfl rfl rfl) ?_ ?_
          · intro h9_1
            refine wl_read rfl rfl rfl (yl_move rfl rfl) ?_
            refine wl_skip rfl rfl rfl ?_
            refine wl_skip rfl rfl rfl ?_
            refine wl_read rfl rfl rfl (yl_pickT rfl rfl rfl) ?_
            refine wl_nil ?_
            refine at_keep (Keep.cons 0 rfl (Keep.cons 1 rfl (Keep.cons 3 rfl (Keep.cons 4 rfl (Keep.cons 5 rfl (Keep.cons 6 rfl (Keep.cons 13 rfl (Keep.cons 34 rfl (Keep.cons 47 rfl (Keep.cons 64 rfl Keep.nil)))))))))) ?_
            refine at_true rfl ?_
            refine at_seq ?_
            have hwd : wide (nst es e) := by unfold wide; omega
            refine at_region ?_
            refine wl_read rfl rfl rfl (yl_assign rfl rfl) ?_
            refine wl_nil ?_
            refine at_keep (Keep.cons 0 rfl (Keep.cons 1 rfl (Keep.cons 3 rfl (Keep.cons 4 rfl (Keep.cons 5 rfl (Keep.cons 6 rfl (Keep.cons 13 rfl (Keep.cons 34 rfl (Keep.cons 47 rfl (Keep.cons 64 rfl Keep.nil)))))))))) ?_
            refine at_retH (fun _ hw => Acc.closes hw.front3.front3.front3.drop3 rfl rfl) Try.func19 (res1 rfl rfl) ?_
            have hpe : perr es e = 2 := perr2 hv hold hdup hwd
            exact ⟨by rw [hpe], by rw [pnext_no (by rw [hpe]; decide)]⟩
          · intro h9_1
            refine wl_read rfl rfl rfl (yl_move rfl rfl) ?_
            refine wl_read rfl rfl rfl (yl_move rfl rfl) ?_
            refine wl_split rfl rfl rfl (yp_gtr rfl rfl rfl) ?_ ?_
            · intro h9_4
              refine wl_read rfl rfl rfl (yl_pickF rfl rfl rfl) ?_
              refine wl_nil ?_
              refine at_keep (Keep.cons 0 rfl (Keep.cons 1 rfl (Keep.cons 3 rfl (Keep.cons 4 rfl (Keep.cons 5 rfl (Keep.cons 6 rfl (Keep.cons 13 rfl (Keep.cons 34 rfl (Keep.cons 47 rfl (Keep.cons 64 rfl Keep.nil)))))))))) ?_
              refine at_true rfl ?_
              refine at_seq ?_
              have hwd : wide (nst es e) := by unfold wide; omega
              refine at_region ?_
              refine wl_read rfl rfl rfl (yl_assign rfl rfl) ?_
              refine wl_nil ?_
              refine at_keep (Keep.cons 0 rfl (Keep.cons 1 rfl (Keep.cons 3 rfl (Keep.cons 4 rfl (Keep.cons 5 rfl (Keep.cons 6 rfl (Keep.cons 13 rfl (Keep.cons 34 rfl (Keep.cons 47 rfl (Keep.cons 64 rfl Keep.nil)))))))))) ?_
              refine at_retH (fun _ hw => Acc.closes hw.front3.front3.front3.drop3 rfl rfl) Try.func19 (res1 rfl rfl) ?_
              have hpe : perr es e = 2 := perr2 hv hold hdup hwd
              exact ⟨by rw [hpe], by rw [pnext_no (by rw [hpe]; decide)]⟩
            · intro h9_4
              refine wl_read rfl rfl rfl (yl_pickF rfl rfl rfl) ?_
              refine wl_nil ?_
              refine at_keep (Keep.cons 0 rfl (Keep.cons 1 rfl (Keep.cons 3 rfl (Keep.cons 4 rfl (Keep.cons 5 rfl (Keep.cons 6 rfl (Keep.cons 13 rfl (Keep.cons 34 rfl (Keep.cons 47 rfl (Keep.cons 64 rfl Keep.nil)))))))))) ?_
              refine at_false rfl ?_
              refine at_skip ?_
              refine at_seq ?_
              have hwd : ¬ wide (nst es e) := by unfold wide; omega
              refine at_heap (fun _ hw => hw.front1.front2) ?_
              refine at_draw2 (.fl 0 (.fl 1 (.fl 2 (.fl 3 (.fl 5 (.ef2 4 (.ef 6 (.ef 7 (.fl 8 (.fl 9 (.ef 10 .nil))))) 6 (.ef 4 (.ef 7 (.fl 8 (.fl 9 (.ef 10 .nil))))))))))) (by kernel_rfl) (by kernel_rfl) ?_
              refine wt_read rfl rfl rfl rfl (yl_move rfl rfl) ?_
              refine wt_read rfl rfl rfl rfl (yl_move rfl rfl) ?_
              refine wt_read rfl rfl rfl rfl (yl_nilCheck rfl rfl) ?_
              refine wt_read rfl rfl rfl rfl (yl_fieldB rfl rfl Try.underlying54 rfl (by kernel_rfl) rfl) ?_
              refine wt_read rfl rfl rfl rfl (yl_loadBk 0 rfl rfl rfl Try.underlying33 rfl (by kernel_rfl)) ?_
              refine wt_two ?_ ?_
              ·
                refine wt_readE rfl rfl rfl rfl (yl_load rfl rfl Try.underlying27 rfl (CellAt.bk 1 rfl rfl)) ⟨[_, _], rfl⟩ ?_
                refine wt_eff rfl rfl rfl rfl (ef_buildSlice (e := 33) [e] rfl rfl (fun _ => by kernel_rfl) rfl rfl) ?_
                rintro _ _ ⟨T11_6, rfl, rfl⟩
                refine ⟨⟨[_, _, _], rfl⟩, ?_⟩
                refine wt_eff rfl rfl rfl rfl (ef_append (ys := [e]) 1 rfl rfl rfl rfl (Rd.of_sl 0 rfl) Try.underlying27 info33 rfl rfl (by simp only [List.length_singleton, maxLen]; omega) (by simp only [List.length_singleton]; omega)) ?_
                rintro _ _ ⟨A2, c2, rfl, hH⟩
                simp only [List.set_cons_succ, List.set_cons_zero] at hH; subst hH
                refine ⟨⟨[_, _, _], rfl⟩, ?_⟩
                refine wt_read rfl rfl rfl rfl (yl_nilCheck rfl rfl) ?_
                refine wt_read rfl rfl rfl rfl (yl_fieldB rfl rfl Try.underlying54 rfl (by kernel_rfl) rfl) ?_
                refine wt_store rfl rfl rfl (es_at2 (es_store 2 rfl rfl rfl rfl (by kernel_rfl) rfl rfl)) ⟨[_, _, _], rfl⟩ ?_
                refine wt_nil ?_
                refine at_keep (Keep.cons 0 rfl (Keep.cons 1 rfl (Keep.cons 3 rfl (Keep.cons 4 rfl (Keep.cons 5 rfl (Keep.cons 6 rfl (Keep.cons 13 rfl (Keep.cons 34 rfl (Keep.cons 47 rfl (Keep.cons 64 rfl Keep.nil)))))))))) ?_
                refine at_seq ?_
                refine at_heap (fun _ hw => hw.tail) ?_
                refine at_heap (fun _ hw => hw.front2.front2.front2.front3) ?_
                refine at_draw1 (.fl 0 (.fl 1 (.fl 2 (.fl 3 (.fl 4 (.fl 5 (.fl 6 (.fl 7 (.fl 8 (.fl 9 (.fl 10 (.ef2 11 (.fl 12 (.ef 13 (.fl 14 (.ef 15 .nil)))) 13 (.fl 14 (.ef 11 (.fl 12 (.ef 15 .nil)))))))))))))))) (by kernel_rfl) (by kernel_rfl) ?_
                refine wt_read rfl rfl rfl rfl (yl_move rfl rfl) ?_
                refine wt_read rfl rfl rfl rfl (yl_nilCheck rfl rfl) ?_
                refine wt_read rfl rfl rfl rfl (yl_fieldB rfl rfl Try.underlying54 rfl (by kernel_rfl) rfl) ?_
                refine wt_read rfl rfl rfl rfl (yl_load rfl rfl Try.underlying52 rfl (CellAt.bk 1 rfl rfl)) ?_
                refine wt_read rfl rfl rfl rfl (yl_fieldB rfl rfl Try.underlying33 rfl (by kernel_rfl) rfl) ?_
                refine wt_read rfl rfl rfl rfl (yl_load rfl rfl Try.underlying3 rfl (CellAt.bk 2 rfl rfl)) ?_
                refine wt_read rfl rfl rfl rfl (yl_fieldB rfl rfl Try.underlying33 rfl (by kernel_rfl) rfl) ?_
                refine wt_read rfl rfl rfl rfl (yl_load rfl rfl Try.underlying3 rfl (CellAt.bk 2 rfl rfl)) ?_
                refine wt_read rfl rfl rfl rfl (yl_fieldB rfl rfl Try.underlying33 rfl (by kernel_rfl) rfl) ?_
                refine wt_read rfl rfl rfl rfl (yl_load rfl rfl Try.underlying3 rfl (CellAt.bk 2 rfl rfl)) ?_
                refine wt_read rfl rfl rfl rfl (yl_build (cs := [.int .i64 e.kind, .int .i64 e.with_, .int .i64 e.number]) rfl rfl (fun _ => by kernel_rfl)) ?_
                refine wt_two ?_ ?_
                ·
                  refine wt_readE rfl rfl rfl rfl (yl_lookM 0 keyOk rfl e.key rfl rfl rfl Try.underlying52 zero3) ⟨[_], rfl⟩ ?_
                  refine wt_read rfl rfl rfl rfl (yl_add rfl rfl rfl (w64 (by have := cnt_bd es e.key; omega) (by have := cnt_bd es e.key; omega))) ?_
                  refine wt_eff rfl rfl rfl rfl (ef_entry 0 keyOk rfl e.key rfl rfl rfl Try.underlying52 zero3) ?_
                  rintro _ _ ⟨born, rfl, hH⟩
                  simp only [List.set_cons_succ, List.set_cons_zero] at hH; subst hH
                  refine ⟨⟨[_], rfl⟩, ?_⟩
                  refine wt_read rfl rfl rfl rfl (yl_extract rfl rfl rfl) ?_
                  refine wt_store rfl rfl rfl (es_at0 (es_entry 0 rfl rfl rfl rfl rfl)) ⟨[_], rfl⟩ ?_
                  refine wt_nil ?_
                  refine at_keep (Keep.cons 0 rfl (Keep.cons 1 rfl (Keep.cons 3 rfl (Keep.cons 4 rfl (Keep.cons 5 rfl (Keep.cons 6 rfl (Keep.cons 13 rfl (Keep.cons 34 rfl (Keep.cons 47 rfl (Keep.cons 64 rfl Keep.nil)))))))))) ?_
                  refine at_seq ?_
                  refine at_region ?_
                  refine wl_read rfl rfl rfl (yl_move rfl rfl) ?_
                  refine wl_read rfl rfl rfl (yl_move rfl rfl) ?_
                  refine wl_read rfl rfl rfl (yl_nilCheck rfl rfl) ?_
                  refine wl_read rfl rfl rfl (yl_fieldB rfl rfl Try.underlying54 rfl (by kernel_rfl) rfl) ?_
                  refine wl_store rfl rfl (es_at2 (es_store 2 rfl rfl rfl rfl (by kernel_rfl) rfl rfl)) ?_
                  refine wl_nil ?_
                  refine at_keep (Keep.cons 0 rfl (Keep.cons 1 rfl (Keep.cons 3 rfl (Keep.cons 4 rfl (Keep.cons 5 rfl (Keep.cons 6 rfl (Keep.cons 13 rfl (Keep.cons 34 rfl (Keep.cons 47 rfl (Keep.cons 64 rfl Keep.nil)))))))))) ?_
                  refine at_seq ?_
                  refine at_region ?_
                  refine wl_read rfl rfl rfl (yl_assign rfl rfl) ?_
                  refine wl_nil ?_
                  refine at_keep (Keep.cons 0 rfl (Keep.cons 1 rfl (Keep.cons 3 rfl (Keep.cons 4 rfl (Keep.cons 5 rfl (Keep.cons 6 rfl (Keep.cons 13 rfl (Keep.cons 34 rfl (Keep.cons 47 rfl (Keep.cons 64 rfl Keep.nil)))))))))) ?_
                  refine at_retH (fun _ hw => Acc.closes hw.front1.front2.drop3 (nst_app hv).symm (cnt_put es e)) Try.func19 (res1 rfl rfl) ?_
                  have hpe : perr es e = 0 := perr0 hv hold hdup hwd
                  exact ⟨by rw [hpe], by rw [pnext_yes hpe]⟩
                ·
                  refine wt_eff rfl rfl rfl rfl (ef_entry 0 keyOk rfl e.key rfl rfl rfl Try.underlying52 zero3) ?_
                  rintro _ _ ⟨born, rfl, hH⟩
                  simp only [List.set_cons_succ, List.set_cons_zero] at hH; subst hH
                  refine ⟨⟨[_], rfl⟩, ?_⟩
                  refine wt_read rfl rfl rfl rfl (yl_extract rfl rfl rfl) ?_
                  refine wt_readE rfl rfl rfl rfl (yl_lookME 0 keyOk rfl e.key rfl rfl rfl Try.underlying52 zero3) ⟨[_], rfl⟩ ?_
                  refine wt_read rfl rfl rfl rfl (yl_add rfl rfl rfl (w64 (by have := cnt_bd es e.key; omega) (by have := cnt_bd es e.key; omega))) ?_
                  refine wt_store rfl rfl rfl (es_at0 (es_entry 0 rfl rfl rfl rfl rfl)) ⟨[_], rfl⟩ ?_
                  refine wt_nil ?_
                  refine at_keep (Keep.cons 0 rfl (Keep.cons 1 rfl (Keep.cons 3 rfl (Keep.cons 4 rfl (Keep.cons 5 rfl (Keep.cons 6 rfl (Keep.cons 13 rfl (Keep.cons 34 rfl (Keep.cons 47 rfl (Keep.cons 64 rfl Keep.nil)))))))))) ?_
                  refine at_seq ?_
                  refine at_region ?_
                  refine wl_read rfl rfl rfl (yl_move rfl rfl) ?_
                  refine wl_read rfl rfl rfl (yl_move rfl rfl) ?_
                  refine wl_read rfl rfl rfl (yl_nilCheck rfl rfl) ?_
                  refine wl_read rfl rfl rfl (yl_fieldB rfl rfl Try.underlying54 rfl (by kernel_rfl) rfl) ?_
                  refine wl_store rfl rfl (es_at2 (es_store 2 rfl rfl rfl rfl (by kernel_rfl) rfl rfl)) ?_
                  refine wl_nil ?_
                  refine at_keep (Keep.cons 0 rfl (Keep.cons 1 rfl (Keep.cons 3 rfl (Keep.cons 4 rfl (Keep.cons 5 rfl (Keep.cons 6 rfl (Keep.cons 13 rfl (Keep.cons 34 rfl (Keep.cons 47 rfl (Keep.cons 64 rfl Keep.nil)))))))))) ?_
                  refine at_seq ?_
                  refine at_region ?_
                  refine wl_read rfl rfl rfl (yl_assign rfl rfl) ?_
                  refine wl_nil ?_
                  refine at_keep (Keep.cons 0 rfl (Keep.cons 1 rfl (Keep.cons 3 rfl (Keep.cons 4 rfl (Keep.cons 5 rfl (Keep.cons 6 rfl (Keep.cons 13 rfl (Keep.cons 34 rfl (Keep.cons 47 rfl (Keep.cons 64 rfl Keep.nil)))))))))) ?_
                  refine at_retH (fun _ hw => Acc.closes hw.front1.front2.drop3 (nst_app hv).symm (cnt_put es e)) Try.func19 (res1 rfl rfl) ?_
                  have hpe : perr es e = 0 := perr0 hv hold hdup hwd
                  exact ⟨by rw [hpe], by rw [pnext_yes hpe]⟩
              ·
                refine wt_eff rfl rfl rfl rfl (ef_buildSlice (e := 33) [e] rfl rfl (fun _ => by kernel_rfl) rfl rfl) ?_
                rintro _ _ ⟨T11_6, rfl, rfl⟩
                refine ⟨⟨[_, _, _], rfl⟩, ?_⟩
                refine wt_readE rfl rfl rfl rfl (yl_load rfl rfl Try.underlying27 rfl (CellAt.bk 2 rfl rfl)) ⟨[_, _, _], rfl⟩ ?_
                refine wt_eff rfl rfl rfl rfl (ef_append (ys := [e]) 1 rfl rfl rfl rfl (Rd.of_sl 0 rfl) Try.underlying27 info33 rfl rfl (by simp only [List.length_singleton, maxLen]; omega) (by simp only [List.length_singleton]; omega)) ?_
                rintro _ _ ⟨A2, c2, rfl, hH⟩
                simp only [List.set_cons_succ, List.set_cons_zero] at hH; subst hH
                refine ⟨⟨[_, _, _], rfl⟩, ?_⟩
                refine wt_read rfl rfl rfl rfl (yl_nilCheck rfl rfl) ?_
                refine wt_read rfl rfl rfl rfl (yl_fieldB rfl rfl Try.underlying54 rfl (by kernel_rfl) rfl) ?_
                refine wt_store rfl rfl rfl (es_at2 (es_store 2 rfl rfl rfl rfl (by kernel_rfl) rfl rfl)) ⟨[_, _, _], rfl⟩ ?_
                refine wt_nil ?_
                refine at_keep (Keep.cons 0 rfl (Keep.cons 1 rfl (Keep.cons 3 rfl (Keep.cons 4 rfl (Keep.cons 5 rfl (Keep.cons 6 rfl (Keep.cons 13 rfl (Keep.cons 34 rfl (Keep.cons 47 rfl (Keep.cons 64 rfl Keep.nil)))))))))) ?_
                refine at_seq ?_
                refine at_heap (fun _ hw => hw.tail) ?_
                refine at_heap (fun _ hw => hw.front2.front2.front2.front3) ?_
                refine at_draw1 (.fl 0 (.fl 1 (.fl 2 (.fl 3 (.fl 4 (.fl 5 (.fl 6 (.fl 7 (.fl 8 (.fl 9 (.fl 10 (.ef2 11 (.fl 12 (.ef 13 (.fl 14 (.ef 15 .nil)))) 13 (.fl 14 (.ef 11 (.fl 12 (.ef 15 .nil)))))))))))))))) (by kernel_rfl) (by kernel_rfl) ?_
                refine wt_read rfl rfl rfl rfl (yl_move rfl rfl) ?_
                refine wt_read rfl rfl rfl rfl (yl_nilCheck rfl rfl) ?_
                refine wt_read rfl rfl rfl rfl (yl_fieldB rfl rfl Try.underlying54 rfl (by kernel_rfl) rfl) ?_
                refine wt_read rfl rfl rfl rfl (yl_load rfl rfl Try.underlying52 rfl (CellAt.bk 1 rfl rfl)) ?_
                refine wt_read rfl rfl rfl rfl (yl_fieldB rfl rfl Try.underlying33 rfl (by kernel_rfl) rfl) ?_
                refine wt_read rfl rfl rfl rfl (yl_load rfl rfl Try.underlying3 rfl (CellAt.bk 2 rfl rfl)) ?_
                refine wt_read rfl rfl rfl rfl (yl_fieldB rfl rfl Try.underlying33 rfl (by kernel_rfl) rfl) ?_
                refine wt_read rfl rfl rfl rfl (yl_load rfl rfl Try.underlying3 rfl (CellAt.bk 2 rfl rfl)) ?_
                refine wt_read rfl rfl rfl rfl (yl_fieldB rfl rfl Try.underlying33 rfl (by kernel_rfl) rfl) ?_
                refine wt_read rfl rfl rfl rfl (yl_load rfl rfl Try.underlying3 rfl (CellAt.bk 2 rfl rfl)) ?_
                refine wt_read rfl rfl rfl rfl (yl_build (cs := [.int .i64 e.kind, .int .i64 e.with_, .int .i64 e.number]) rfl rfl (fun _ => by kernel_rfl)) ?_
                refine wt_two ?_ ?_
                ·
                  refine wt_readE rfl rfl rfl rfl (yl_lookM 0 keyOk rfl e.key rfl rfl rfl Try.underlying52 zero3) ⟨[_], rfl⟩ ?_
                  refine wt_read rfl rfl rfl rfl (yl_add rfl rfl rfl (w64 (by have := cnt_bd es e.key; omega) (by have := cnt_bd es e.key; omega))) ?_
                  refine wt_eff rfl rfl rfl rfl (ef_entry 0 keyOk rfl e.key rfl rfl rfl Try.underlying52 zero3) ?_
                  rintro _ _ ⟨born, rfl, hH⟩
                  simp only [List.set_cons_succ, List.set_cons_zero] at hH; subst hH
                  refine ⟨⟨[_], rfl⟩, ?_⟩
                  refine wt_read rfl rfl rfl rfl (yl_extract rfl rfl rfl) ?_
                  refine wt_store rfl rfl rfl (es_at0 (es_entry 0 rfl rfl rfl rfl rfl)) ⟨[_], rfl⟩ ?_
                  refine wt_nil ?_
                  refine at_keep (Keep.cons 0 rfl (Keep.cons 1 rfl (Keep.cons 3 rfl (Keep.cons 4 rfl (Keep.cons 5 rfl (Keep.cons 6 rfl (Keep.cons 13 rfl (Keep.cons 34 rfl (Keep.cons 47 rfl (Keep.cons 64 rfl Keep.nil)))))))))) ?_
                  refine at_seq ?_
                  refine at_region ?_
                  refine wl_read rfl rfl rfl (yl_move rfl rfl) ?_
                  refine wl_read rfl rfl rfl (yl_move rfl rfl) ?_
                  refine wl_read rfl rfl rfl (yl_nilCheck rfl rfl) ?_
                  refine wl_read rfl rfl rfl (yl_fieldB rfl rfl Try.underlying54 rfl (by kernel_rfl) rfl) ?_
                  refine wl_store rfl rfl (es_at2 (es_store 2 rfl rfl rfl rfl (by kernel_rfl) rfl rfl)) ?_
                  refine wl_nil ?_
                  refine at_keep (Keep.cons 0 rfl (Keep.cons 1 rfl (Keep.cons 3 rfl (Keep.cons 4 rfl (Keep.cons 5 rfl (Keep.cons 6 rfl (Keep.cons 13 rfl (Keep.cons 34 rfl (Keep.cons 47 rfl (Keep.cons 64 rfl Keep.nil)))))))))) ?_
                  refine at_seq ?_
                  refine at_region ?_
                  refine wl_read rfl rfl rfl (yl_assign rfl rfl) ?_
                  refine wl_nil ?_
                  refine at_keep (Keep.cons 0 rfl (Keep.cons 1 rfl (Keep.cons 3 rfl (Keep.cons 4 rfl (Keep.cons 5 rfl (Keep.cons 6 rfl (Keep.cons 13 rfl (Keep.cons 34 rfl (Keep.cons 47 rfl (Keep.cons 64 rfl Keep.nil)))))))))) ?_
                  refine at_retH (fun _ hw => Acc.closes hw.front1.front2.drop3 (nst_app hv).symm (cnt_put es e)) Try.func19 (res1 rfl rfl) ?_
                  have hpe : perr es e = 0 := perr0 hv hold hdup hwd
                  exact ⟨by rw [hpe], by rw [pnext_yes hpe]⟩
                ·
                  refine wt_eff rfl rfl rfl rfl (ef_entry 0 keyOk rfl e.key rfl rfl rfl Try.underlying52 zero3) ?_
                  rintro _ _ ⟨born, rfl, hH⟩
                  simp only [List.set_cons_succ, List.set_cons_zero] at hH; subst hH
                  refine ⟨⟨[_], rfl⟩, ?_⟩
                  refine wt_read rfl rfl rfl rfl (yl_extract rfl rfl rfl) ?_
                  refine wt_readE rfl rfl rfl rfl (yl_lookME 0 keyOk rfl e.key rfl rfl rfl Try.underlying52 zero3) ⟨[_], rfl⟩ ?_
                  refine wt_read rfl rfl rfl rfl (yl_add rfl rfl rfl (w64 (by have := cnt_bd es e.key; omega) (by have := cnt_bd es e.key; omega))) ?_
                  refine wt_store rfl rfl rfl (es_at0 (es_entry 0 rfl rfl rfl rfl rfl)) ⟨[_], rfl⟩ ?_
                  refine wt_nil ?_
                  refine at_keep (Keep.cons 0 rfl (Keep.cons 1 rfl (Keep.cons 3 rfl (Keep.cons 4 rfl (Keep.cons 5 rfl (Keep.cons 6 rfl (Keep.cons 13 rfl (Keep.cons 34 rfl (Keep.cons 47 rfl (Keep.cons 64 rfl Keep.nil)))))))))) ?_
                  refine at_seq ?_
                  refine at_region ?_
                  refine wl_read rfl rfl rfl (yl_move rfl rfl) ?_
                  refine wl_read rfl rfl rfl (yl_move rfl rfl) ?_
                  refine wl_read rfl rfl rfl (yl_nilCheck rfl rfl) ?_
                  refine wl_read rfl rfl rfl (yl_fieldB rfl rfl Try.underlying54 rfl (by kernel_rfl) rfl) ?_
                  refine wl_store rfl rfl (es_at2 (es_store 2 rfl rfl rfl rfl (by kernel_rfl) rfl rfl)) ?_
                  refine wl_nil ?_
                  refine at_keep (Keep.cons 0 rfl (Keep.cons 1 rfl (Keep.cons 3 rfl (Keep.cons 4 rfl (Keep.cons 5 rfl (Keep.cons 6 rfl (Keep.cons 13 rfl (Keep.cons 34 rfl (Keep.cons 47 rfl (Keep.cons 64 rfl Keep.nil)))))))))) ?_
                  refine at_seq ?_
                  refine at_region ?_
                  refine wl_read rfl rfl rfl (yl_assign rfl rfl) ?_
                  refine wl_nil ?_
                  refine at_keep (Keep.cons 0 rfl (Keep.cons 1 rfl (Keep.cons 3 rfl (Keep.cons 4 rfl (Keep.cons 5 rfl (Keep.cons 6 rfl (Keep.cons 13 rfl (Keep.cons 34 rfl (Keep.cons 47 rfl (Keep.cons 64 rfl Keep.nil)))))))))) ?_
                  refine at_retH (fun _ hw => Acc.closes hw.front1.front2.drop3 (nst_app hv).symm (cnt_put es e)) Try.func19 (res1 rfl rfl) ?_
                  have hpe : perr es e = 0 := perr0 hv hold hdup hwd
                  exact ⟨by rw [hpe], by rw [pnext_yes hpe]⟩
      ·
        rw [decide_eq_false hh]
        refine wl_read rfl rfl rfl (yl_move rfl rfl) ?_
        refine wl_skip rfl rfl rfl ?_
        refine wl_skip rfl rfl rfl ?_
        refine wl_skip rfl rfl rfl ?_
        refine wl_read rfl rfl rfl (yl_pickF rfl rfl rfl) ?_
        refine wl_nil ?_
        refine at_keep (Keep.cons 0 rfl (Keep.cons 1 rfl (Keep.cons 3 rfl (Keep.cons 4 rfl (Keep.cons 5 rfl (Keep.cons 13 rfl (Keep.cons 34 rfl (Keep.cons 47 rfl Keep.nil)))))))) ?_
        refine at_false rfl ?_
        refine at_skip ?_
        refine at_seq ?_
        have hdup : ¬ (e.kind ≠ 1 ∧ 0 < cnt es e.key) := fun h => hh h.2
        refine at_draw0 (.fl 0 (.fl 1 (.fl 2 (.fl 3 (.fl 4 (.fl 5 (.fl 7 (.fl 8 (.ef 6 (.fl 9 (.fl 10 (.fl 11 .nil)))))))))))) (by kernel_rfl) (by kernel_rfl) ?_
        refine wt_read rfl rfl rfl rfl (yl_move rfl rfl) ?_
        refine wt_read rfl rfl rfl rfl (yl_nilCheck rfl rfl) ?_
        refine wt_read rfl rfl rfl rfl (yl_fieldB rfl rfl Try.underlying54 rfl (by kernel_rfl) rfl) ?_
        refine wt_read rfl rfl rfl rfl (yl_load rfl rfl Try.underlying3 rfl (CellAt.bk 1 rfl rfl)) ?_
        refine wt_read rfl rfl rfl rfl (yl_fieldB rfl rfl Try.underlying33 rfl (by kernel_rfl) rfl) ?_
        refine wt_read rfl rfl rfl rfl (yl_load rfl rfl Try.underlying3 rfl (CellAt.bk 0 rfl rfl)) ?_
        refine wt_read rfl rfl rfl rfl (yl_fieldB rfl rfl Try.underlying33 rfl (by kernel_rfl) rfl) ?_
        refine wt_read rfl rfl rfl rfl (yl_load rfl rfl Try.underlying3 rfl (CellAt.bk 0 rfl rfl)) ?_
        refine wt_call rfl rfl rfl rfl (en_call rfl rfl) (sign_fn e.kind _ _) ?_
        rintro _ _ ⟨rfl, rfl⟩
        refine ⟨⟨[], rfl⟩, ?_⟩
        refine wt_read rfl rfl rfl rfl (yl_mul rfl rfl rfl (mul_sg hv)) ?_
        refine wt_read rfl rfl rfl rfl (yl_add rfl rfl rfl (add_nst hg hv)) ?_
        refine wt_read rfl rfl rfl rfl (yl_assign rfl rfl) ?_
        refine wt_nil ?_
        refine at_keep (Keep.cons 0 rfl (Keep.cons 1 rfl (Keep.cons 3 rfl (Keep.cons 4 rfl (Keep.cons 5 rfl (Keep.cons 6 rfl (Keep.cons 13 rfl (Keep.cons 34 rfl (Keep.cons 47 rfl Keep.nil))))))))) ?_
        refine at_seq ?_
        refine at_seq ?_
        refine at_region ?_
        refine wl_read rfl rfl rfl (yl_move rfl rfl) ?_
        refine wl_split rfl rfl rfl (yp_lss rfl rfl rfl) ?_ ?_
        · intro h9_1
          refine wl_read rfl rfl rfl (yl_move rfl rfl) ?_
          refine wl_skip rfl rfl rfl ?_
          refine wl_skip rfl rfl rfl ?_
          refine wl_read rfl rfl rfl (yl_pickT rfl rfl rfl) ?_
          refine wl_nil ?_
          refine at_keep (Keep.cons 0 rfl (Keep.cons 1 rfl (Keep.cons 3 rfl (Keep.cons 4 rfl (Keep.cons 5 rfl (Keep.cons 6 rfl (Keep.cons 13 rfl (Keep.cons 34 rfl (Keep.cons 47 rfl (Keep.cons 64 rfl Keep.nil)))))))))) ?_
          refine at_true rfl ?_
          refine at_seq ?_
          have hwd : wide (nst es e) := by unfold wide; omega
          refine at_region ?_
          refine wl_read rfl rfl rfl (yl_assign rfl rfl) ?_
          refine wl_nil ?_
          refine at_keep (Keep.cons 0 rfl (Keep.cons 1 rfl (Keep.cons 3 rfl (Keep.cons 4 rfl (Keep.cons 5 rfl (Keep.cons 6 rfl (Keep.cons 13 rfl (Keep.cons 34 rfl (Keep.cons 47 rfl (Keep.cons 64 rfl Keep.nil)))))))))) ?_
          refine at_retH (fun _ hw => Acc.closes hw.front3.front3.front3.drop3 rfl rfl) Try.func19 (res1 rfl rfl) ?_
          have hpe : perr es e = 2 := perr2 hv hold hdup hwd
          exact ⟨by rw [hpe], by rw [pnext_no (by rw [hpe]; decide)]⟩
        · intro h9_1
          refine wl_read rfl rfl rfl (yl_move rfl rfl) ?_
          refine wl_read rfl rfl rfl (yl_move rfl rfl) ?_
          refine wl_split rfl rfl rfl (yp_gtr rfl rfl rfl) ?_ ?_
          · intro h9_4
            refine wl_read rfl rfl rfl (yl_pickF rfl rfl rfl) ?_
            refine wl_nil ?_
            refine at_keep (Keep.cons 0 rfl (Keep.cons 1 rfl (Keep.cons 3 rfl (Keep.cons 4 rfl (Keep.cons 5 rfl (Keep.cons 6 rfl (Keep.cons 13 rfl (Keep.cons 34 rfl (Keep.cons 47 rfl (Keep.cons 64 rfl Keep.nil)))))))))) ?_
            refine at_true rfl ?_
            refine at_seq ?_
            have hwd : wide (nst es e) := by unfold wide; omega
            refine at_region ?_
            refine wl_read rfl rfl rfl (yl_assign rfl rfl) ?_
            refine wl_nil ?_
            refine at_keep (Keep.cons 0 rfl (Keep.cons 1 rfl (Keep.cons 3 rfl (Keep.cons 4 rfl (Keep.cons 5 rfl (Keep.cons 6 rfl (Keep.cons 13 rfl (Keep.cons 34 rfl (Keep.cons 47 rfl (Keep.cons 64 rfl Keep.nil)))))))))) ?_
            refine at_retH (fun _ hw => Acc.closes hw.front3.front3.front3.drop3 rfl rfl) Try.func19 (res1 rfl rfl) ?_
            have hpe : perr es e = 2 := perr2 hv hold hdup hwd
            exact ⟨by rw [hpe], by rw [pnext_no (by rw [hpe]; decide)]⟩
          · intro h9_4
            refine wl_read rfl rfl rfl (yl_pickF rfl rfl rfl) ?_
            refine wl_nil ?_
            refine at_keep (Keep.cons 0 rfl (Keep.cons 1 rfl (Keep.cons 3 rfl (Keep.cons 4 rfl (Keep.cons 5 rfl (Keep.cons 6 rfl (Keep.cons 13 rfl (Keep.cons 34 rfl (Keep.cons 47 rfl (Keep.cons 64 rfl Keep.nil)))))))))) ?_
            refine at_false rfl ?_
            refine at_skip ?_
            refine at_seq ?_
            have hwd : ¬ wide (nst es e) := by unfold wide; omega
            refine at_heap (fun _ hw => hw.front1.front2) ?_
            refine at_draw2 (.fl 0 (.fl 1 (.fl 2 (.fl 3 (.fl 5 (.ef2 4 (.ef 6 (.ef 7 (.fl 8 (.fl 9 (.ef 10 .nil))))) 6 (.ef 4 (.ef 7 (.fl 8 (.fl 9 (.ef 10 .nil))))))))))) (by kernel_rfl) (by kernel_rfl) ?_
            refine wt_read rfl rfl rfl rfl (yl_move rfl rfl) ?_
            refine wt_read rfl rfl rfl rfl (yl_move rfl rfl) ?_
            refine wt_read rfl rfl rfl rfl (yl_nilCheck rfl rfl) ?_
            refine wt_read rfl rfl rfl rfl (yl_fieldB rfl rfl Try.underlying54 rfl (by kernel_rfl) rfl) ?_
            refine wt_read rfl rfl rfl rfl (yl_loadBk 0 rfl rfl rfl Try.underlying33 rfl (by kernel_rfl)) ?_
            refine wt_two ?_ ?_
            ·
              refine wt_readE rfl rfl rfl rfl (yl_load rfl rfl Try.underlying27 rfl (CellAt.bk 1 rfl rfl)) ⟨[_, _], rfl⟩ ?_
              refine wt_eff rfl rfl rfl rfl (ef_buildSlice (e := 33) [e] rfl rfl (fun _ => by kernel_rfl) rfl rfl) ?_
              rintro _ _ ⟨T11_6, rfl, rfl⟩
              refine ⟨⟨[_, _, _], rfl⟩, ?_⟩
              refine wt_eff rfl rfl rfl rfl (ef_append (ys := [e]) 1 rfl rfl rfl rfl (Rd.of_sl 0 rfl) Try.underlying27 info33 rfl rfl (by simp only [List.length_singleton, maxLen]; omega) (by simp only [List.length_singleton]; omega)) ?_
              rintro _ _ ⟨A2, c2, rfl, hH⟩
              simp only [List.set_cons_succ, List.set_cons_zero] at hH; subst hH
              refine ⟨⟨[_, _, _], rfl⟩, ?_⟩
              refine wt_read rfl rfl rfl rfl (yl_nilCheck rfl rfl) ?_
              refine wt_read rfl rfl rfl rfl (yl_fieldB rfl rfl Try.underlying54 rfl (by kernel_rfl) rfl) ?_
              refine wt_store rfl rfl rfl (es_at2 (es_store 2 rfl rfl rfl rfl (by kernel_rfl) rfl rfl)) ⟨[_, _, _], rfl⟩ ?_
              refine wt_nil ?_
              refine at_keep (Keep.cons 0 rfl (Keep.cons 1 rfl (Keep.cons 3 rfl (Keep.cons 4 rfl (Keep.cons 5 rfl (Keep.cons 6 rfl (Keep.cons 13 rfl (Keep.cons 34 rfl (Keep.cons 47 rfl (Keep.cons 64 rfl Keep.nil)))))))))) ?_
              refine at_seq ?_
              refine at_heap (fun _ hw => hw.tail) ?_
              refine at_heap (fun _ hw => hw.front2.front2.front2.front3) ?_
              refine at_draw1 (.fl 0 (.fl 1 (.fl 2 (.fl 3 (.fl 4 (.fl 5 (.fl 6 (.fl 7 (.fl 8 (.fl 9 (.fl 10 (.ef2 11 (.fl 12 (.ef 13 (.fl 14 (.ef 15 .nil)))) 13 (.fl 14 (.ef 11 (.fl 12 (.ef 15 .nil)))))))))))))))) (by kernel_rfl) (by kernel_rfl) ?_
              refine wt_read rfl rfl rfl rfl (yl_move rfl rfl) ?_
              refine wt_read rfl rfl rfl rfl (yl_nilCheck rfl rfl) ?_
              refine wt_read rfl rfl rfl rfl (yl_fieldB rfl rfl Try.underlying54 rfl (by kernel_rfl) rfl) ?_
              refine wt_read rfl rfl rfl rfl (yl_load rfl rfl Try.underlying52 rfl (CellAt.bk 1 rfl rfl)) ?_
              refine wt_read rfl rfl rfl rfl (yl_fieldB rfl rfl Try.underlying33 rfl (by kernel_rfl) rfl) ?_
              refine wt_read rfl rfl rfl rfl (yl_load rfl rfl Try.underlying3 rfl (CellAt.bk 2 rfl rfl)) ?_
              refine wt_read rfl rfl rfl rfl (yl_fieldB rfl rfl Try.underlying33 rfl (by kernel_rfl) rfl) ?_
              refine wt_read rfl rfl rfl rfl (yl_load rfl rfl Try.underlying3 rfl (CellAt.bk 2 rfl rfl)) ?_
              refine wt_read rfl rfl rfl rfl (yl_fieldB rfl rfl Try.underlying33 rfl (by kernel_rfl) rfl) ?_
              refine wt_read rfl rfl rfl rfl (yl_load rfl rfl Try.underlying3 rfl (CellAt.bk 2 rfl rfl)) ?_
              refine wt_read rfl rfl rfl rfl (yl_build (cs := [.int .i64 e.kind, .int .i64 e.with_, .int .i64 e.number]) rfl rfl (fun _ => by kernel_rfl)) ?_
              refine wt_two ?_ ?_
              ·
                refine wt_readE rfl rfl rfl rfl (yl_lookM 0 keyOk rfl e.key rfl rfl rfl Try.underlying52 zero3) ⟨[_], rfl⟩ ?_
                refine wt_read rfl rfl rfl rfl (yl_add rfl rfl rfl (w64 (by have := cnt_bd es e.key; omega) (by have := cnt_bd es e.key; omega))) ?_
                refine wt_eff rfl rfl rfl rfl (ef_entry 0 keyOk rfl e.key rfl rfl rfl Try.underlying52 zero3) ?_
                rintro _ _ ⟨born, rfl, hH⟩
                simp only [List.set_cons_succ, List.set_cons_zero] at hH; subst hH
                refine ⟨⟨[_], rfl⟩, ?_⟩
                refine wt_read rfl rfl rfl rfl (yl_extract rfl rfl rfl) ?_
                refine wt_store rfl rfl rfl (es_at0 (es_entry 0 rfl rfl rfl rfl rfl)) ⟨[_], rfl⟩ ?_
                refine wt_nil ?_
                refine at_keep (Keep.cons 0 rfl (Keep.cons 1 rfl (Keep.cons 3 rfl (Keep.cons 4 rfl (Keep.cons 5 rfl (Keep.cons 6 rfl (Keep.cons 13 rfl (Keep.cons 34 rfl (Keep.cons 47 rfl (Keep.cons 64 rfl Keep.nil)))))))))) ?_
                refine at_seq ?_
                refine at_region ?_
                refine wl_read rfl rfl rfl (yl_move rfl rfl) ?_
                refine wl_read rfl rfl rfl (yl_move rfl rfl) ?_
                refine wl_read rfl rfl rfl (yl_nilCheck rfl rfl) ?_
                refine wl_read rfl rfl rfl (yl_fieldB rfl rfl Try.underlying54 rfl (by kernel_rfl) rfl) ?_
                refine wl_store rfl rfl (es_at2 (es_store 2 rfl rfl rfl rfl (by kernel_rfl) rfl rfl)) ?_
                refine wl_nil ?_
                refine at_keep (Keep.cons 0 rfl (Keep.cons 1 rfl (Keep.cons 3 rfl (Keep.cons 4 rfl (Keep.cons 5 rfl (Keep.cons 6 rfl (Keep.cons 13 rfl (Keep.cons 34 rfl (Keep.cons 47 rfl (Keep.cons 64 rfl Keep.nil)))))))))) ?_
                refine at_seq ?_
                refine at_region ?_
                refine wl_read rfl rfl rfl (yl_assign rfl rfl) ?_
                refine wl_nil ?_
                refine at_keep (Keep.cons 0 rfl (Keep.cons 1 rfl (Keep.cons 3 rfl (Keep.cons 4 rfl (Keep.cons 5 rfl (Keep.cons 6 rfl (Keep.cons 13 rfl (Keep.cons 34 rfl (Keep.cons 47 rfl (Keep.cons 64 rfl Keep.nil)))))))))) ?_
                refine at_retH (fun _ hw => Acc.closes hw.front1.front2.drop3 (nst_app hv).symm (cnt_put es e)) Try.func19 (res1 rfl rfl) ?_
                have hpe : perr es e = 0 := perr0 hv hold hdup hwd
                exact ⟨by rw [hpe], by rw [pnext_yes hpe]⟩
              ·
                refine wt_eff rfl rfl rfl rfl (ef_entry 0 keyOk rfl e.key rfl rfl rfl Try.underlying52 zero3) ?_
                rintro _ _ ⟨born, rfl, hH⟩
                simp only [List.set_cons_succ, List.set_cons_zero] at hH; subst hH
                refine ⟨⟨[_], rfl⟩, ?_⟩
                refine wt_read rfl rfl rfl rfl (yl_extract rfl rfl rfl) ?_
                refine wt_readE rfl rfl rfl rfl (yl_lookME 0 keyOk rfl e.key rfl rfl rfl Try.underlying52 zero3) ⟨[_], rfl⟩ ?_
                refine wt_read rfl rfl rfl rfl (yl_add rfl rfl rfl (w64 (by have := cnt_bd es e.key; omega) (by have := cnt_bd es e.key; omega))) ?_
                refine wt_store rfl rfl rfl (es_at0 (es_entry 0 rfl rfl rfl rfl rfl)) ⟨[_], rfl⟩ ?_
                refine wt_nil ?_
                refine at_keep (Keep.cons 0 rfl (Keep.cons 1 rfl (Keep.cons 3 rfl (Keep.cons 4 rfl (Keep.cons 5 rfl (Keep.cons 6 rfl (Keep.cons 13 rfl (Keep.cons 34 rfl (Keep.cons 47 rfl (Keep.cons 64 rfl Keep.nil)))))))))) ?_
                refine at_seq ?_
                refine at_region ?_
                refine wl_read rfl rfl rfl (yl_move rfl rfl) ?_
                refine wl_read rfl rfl rfl (yl_move rfl rfl) ?_
                refine wl_read rfl rfl rfl (yl_nilCheck rfl rfl) ?_
                refine wl_read rfl rfl rfl (yl_fieldB rfl rfl Try.underlying54 rfl (by kernel_rfl) rfl) ?_
                refine wl_store rfl rfl (es_at2 (es_store 2 rfl rfl rfl rfl (by kernel_rfl) rfl rfl)) ?_
                refine wl_nil ?_
                refine at_keep (Keep.cons 0 rfl (Keep.cons 1 rfl (Keep.cons 3 rfl (Keep.cons 4 rfl (Keep.cons 5 rfl (Keep.cons 6 rfl (Keep.cons 13 rfl (Keep.cons 34 rfl (Keep.cons 47 rfl (Keep.cons 64 rfl Keep.nil)))))))))) ?_
                refine at_seq ?_
                refine at_region ?_
                refine wl_read rfl rfl rfl (yl_assign rfl rfl) ?_
                refine wl_nil ?_
                refine at_keep (Keep.cons 0 rfl (Keep.cons 1 rfl (Keep.cons 3 rfl (Keep.cons 4 rfl (Keep.cons 5 rfl (Keep.cons 6 rfl (Keep.cons 13 rfl (Keep.cons 34 rfl (Keep.cons 47 rfl (Keep.cons 64 rfl Keep.nil)))))))))) ?_
                refine at_retH (fun _ hw => Acc.closes hw.front1.front2.drop3 (nst_app hv).symm (cnt_put es e)) Try.func19 (res1 rfl rfl) ?_
                have hpe : perr es e = 0 := perr0 hv hold hdup hwd
                exact ⟨by rw [hpe], by rw [pnext_yes hpe]⟩
            ·
              refine wt_eff rfl rfl rfl rfl (ef_buildSlice (e := 33) [e] rfl rfl (fun _ => by kernel_rfl) rfl rfl) ?_
              rintro _ _ ⟨T11_6, rfl, rfl⟩
              refine ⟨⟨[_, _, _], rfl⟩, ?_⟩
              refine wt_readE rfl rfl rfl rfl (yl_load rfl rfl Try.underlying27 rfl (CellAt.bk 2 rfl rfl)) ⟨[_, _, _], rfl⟩ ?_
              refine wt_eff rfl rfl rfl rfl (ef_append (ys := [e]) 1 rfl rfl rfl rfl (Rd.of_sl 0 rfl) Try.underlying27 info33 rfl rfl (by simp only [List.length_singleton, maxLen]; omega) (by simp only [List.length_singleton]; omega)) ?_
              rintro _ _ ⟨A2, c2, rfl, hH⟩
              simp only [List.set_cons_succ, List.set_cons_zero] at hH; subst hH
              refine ⟨⟨[_, _, _], rfl⟩, ?_⟩
              refine wt_read rfl rfl rfl rfl (yl_nilCheck rfl rfl) ?_
              refine wt_read rfl rfl rfl rfl (yl_fieldB rfl rfl Try.underlying54 rfl (by kernel_rfl) rfl) ?_
              refine wt_store rfl rfl rfl (es_at2 (es_store 2 rfl rfl rfl rfl (by kernel_rfl) rfl rfl)) ⟨[_, _, _], rfl⟩ ?_
              refine wt_nil ?_
              refine at_keep (Keep.cons 0 rfl (Keep.cons 1 rfl (Keep.cons 3 rfl (Keep.cons 4 rfl (Keep.cons 5 rfl (Keep.cons 6 rfl (Keep.cons 13 rfl (Keep.cons 34 rfl (Keep.cons 47 rfl (Keep.cons 64 rfl Keep.nil)))))))))) ?_
              refine at_seq ?_
              refine at_heap (fun _ hw => hw.tail) ?_
              refine at_heap (fun _ hw => hw.front2.front2.front2.front3) ?_
              refine at_draw1 (.fl 0 (.fl 1 (.fl 2 (.fl 3 (.fl 4 (.fl 5 (.fl 6 (.fl 7 (.fl 8 (.fl 9 (.fl 10 (.ef2 11 (.fl 12 (.ef 13 (.fl 14 (.ef 15 .nil)))) 13 (.fl 14 (.ef 11 (.fl 12 (.ef 15 .nil)))))))))))))))) (by kernel_rfl) (by kernel_rfl) ?_
              refine wt_read rfl rfl rfl rfl (yl_move rfl rfl) ?_
              refine wt_read rfl rfl rfl rfl (yl_nilCheck rfl rfl) ?_
              refine wt_read rfl rfl rfl rfl (yl_fieldB rfl rfl Try.underlying54 rfl (by kernel_rfl) rfl) ?_
              refine wt_read rfl rfl rfl rfl (yl_load rfl rfl Try.underlying52 rfl (CellAt.bk 1 rfl rfl)) ?_
              refine wt_read rfl rfl rfl rfl (yl_fieldB rfl rfl Try.underlying33 rfl (by kernel_rfl) rfl) ?_
              refine wt_read rfl rfl rfl rfl (yl_load rfl rfl Try.underlying3 rfl (CellAt.bk 2 rfl rfl)) ?_
              refine wt_read rfl rfl rfl rfl (yl_fieldB rfl rfl Try.underlying33 rfl (by kernel_rfl) rfl) ?_
              refine wt_read rfl rfl rfl rfl (yl_load rfl rfl Try.underlying3 rfl (CellAt.bk 2 rfl rfl)) ?_
              refine wt_read rfl rfl rfl rfl (yl_fieldB rfl rfl Try.underlying33 rfl (by kernel_rfl) rfl) ?_
              refine wt_read rfl rfl rfl rfl (yl_load rfl rfl Try.underlying3 rfl (CellAt.bk 2 rfl rfl)) ?_
              refine wt_read rfl rfl rfl rfl (yl_build (cs := [.int .i64 e.kind, .int .i64 e.with_, .int .i64 e.number]) rfl rfl (fun _ => by kernel_rfl)) ?_
              refine wt_two ?_ ?_
              ·
                refine wt_readE rfl rfl rfl rfl (yl_lookM 0 keyOk rfl e.key rfl rfl rfl Try.underlying52 zero3) ⟨[_], rfl⟩ ?_
                refine wt_read rfl rfl rfl rfl (yl_add rfl rfl rfl (w64 (by have := cnt_bd es e.key; omega) (by have := cnt_bd es e.key; omega))) ?_
                refine wt_eff rfl rfl rfl rfl (ef_entry 0 keyOk rfl e.key rfl rfl rfl Try.underlying52 zero3) ?_
                rintro _ _ ⟨born, rfl, hH⟩
                simp only [List.set_cons_succ, List.set_cons_zero] at hH; subst hH
                refine ⟨⟨[_], rfl⟩, ?_⟩
                refine wt_read rfl rfl rfl rfl (yl_extract rfl rfl rfl) ?_
                refine wt_store rfl rfl rfl (es_at0 (es_entry 0 rfl rfl rfl rfl rfl)) ⟨[_], rfl⟩ ?_
                refine wt_nil ?_
                refine at_keep (Keep.cons 0 rfl (Keep.cons 1 rfl (Keep.cons 3 rfl (Keep.cons 4 rfl (Keep.cons 5 rfl (Keep.cons 6 rfl (Keep.cons 13 rfl (Keep.cons 34 rfl (Keep.cons 47 rfl (Keep.cons 64 rfl Keep.nil)))))))))) ?_
                refine at_seq ?_
                refine at_region ?_
                refine wl_read rfl rfl rfl (yl_move rfl rfl) ?_
                refine wl_read rfl rfl rfl (yl_move rfl rfl) ?_
                refine wl_read rfl rfl rfl (yl_nilCheck rfl rfl) ?_
                refine wl_read rfl rfl rfl (yl_fieldB rfl rfl Try.underlying54 rfl (by kernel_rfl) rfl) ?_
                refine wl_store rfl rfl (es_at2 (es_store 2 rfl rfl rfl rfl (by kernel_rfl) rfl rfl)) ?_
                refine wl_nil ?_
                refine at_keep (Keep.cons 0 rfl (Keep.cons 1 rfl (Keep.cons 3 rfl (Keep.cons 4 rfl (Keep.cons 5 rfl (Keep.cons 6 rfl (Keep.cons 13 rfl (Keep.cons 34 rfl (Keep.cons 47 rfl (Keep.cons 64 rfl Keep.nil)))))))))) ?_
                refine at_seq ?_
                refine at_region ?_
                refine wl_read rfl rfl rfl (yl_assign rfl rfl) ?_
                refine wl_nil ?_
                refine at_keep (Keep.cons 0 rfl (Keep.cons 1 rfl (Keep.cons 3 rfl (Keep.cons 4 rfl (Keep.cons 5 rfl (Keep.cons 6 rfl (Keep.cons 13 rfl (Keep.cons 34 rfl (Keep.cons 47 rfl (Keep.cons 64 rfl Keep.nil)))))))))) ?_
                refine at_retH (fun _ hw => Acc.closes hw.front1.front2.drop3 (nst_app hv).symm (cnt_put es e)) Try.func19 (res1 rfl rfl) ?_
                have hpe : perr es e = 0 := perr0 hv hold hdup hwd
                exact ⟨by rw [hpe], by rw [pnext_yes hpe]⟩
              ·
                refine wt_eff rfl rfl rfl rfl (ef_entry 0 keyOk rfl e.key rfl rfl rfl Try.underlying52 zero3) ?_
                rintro _ _ ⟨born, rfl, hH⟩
                simp only [List.set_cons_succ, List.set_cons_zero] at hH; subst hH
                refine ⟨⟨[_], rfl⟩, ?_⟩
                refine wt_read rfl rfl rfl rfl (yl_extract rfl rfl rfl) ?_
                refine wt_readE rfl rfl rfl rfl (yl_lookME 0 keyOk rfl e.key rfl rfl rfl Try.underlying52 zero3) ⟨[_], rfl⟩ ?_
                refine wt_read rfl rfl rfl rfl (yl_add rfl rfl rfl (w64 (by have := cnt_bd es e.key; omega) (by have := cnt_bd es e.key; omega))) ?_
                refine wt_store rfl rfl rfl (es_at0 (es_entry 0 rfl rfl rfl rfl rfl)) ⟨[_], rfl⟩ ?_
                refine wt_nil ?_
                refine at_keep (Keep.cons 0 rfl (Keep.cons 1 rfl (Keep.cons 3 rfl (Keep.cons 4 rfl (Keep.cons 5 rfl (Keep.cons 6 rfl (Keep.cons 13 rfl (Keep.cons 34 rfl (Keep.cons 47 rfl (Keep.cons 64 rfl Keep.nil)))))))))) ?_
                refine at_seq ?_
                refine at_region ?_
                refine wl_read rfl rfl rfl (yl_move rfl rfl) ?_
                refine wl_read rfl rfl rfl (yl_move rfl rfl) ?_
                refine wl_read rfl rfl rfl (yl_nilCheck rfl rfl) ?_
                refine wl_read rfl rfl rfl (yl_fieldB rfl rfl Try.underlying54 rfl (by kernel_rfl) rfl) ?_
                refine wl_store rfl rfl (es_at2 (es_store 2 rfl rfl rfl rfl (by kernel_rfl) rfl rfl)) ?_
                refine wl_nil ?_
                refine at_keep (Keep.cons 0 rfl (Keep.cons 1 rfl (Keep.cons 3 rfl (Keep.cons 4 rfl (Keep.cons 5 rfl (Keep.cons 6 rfl (Keep.cons 13 rfl (Keep.cons 34 rfl (Keep.cons 47 rfl (Keep.cons 64 rfl Keep.nil)))))))))) ?_
                refine at_seq ?_
                refine at_region ?_
                refine wl_read rfl rfl rfl (yl_assign rfl rfl) ?_
                refine wl_nil ?_
                refine at_keep (Keep.cons 0 rfl (Keep.cons 1 rfl (Keep.cons 3 rfl (Keep.cons 4 rfl (Keep.cons 5 rfl (Keep.cons 6 rfl (Keep.cons 13 rfl (Keep.cons 34 rfl (Keep.cons 47 rfl (Keep.cons 64 rfl Keep.nil)))))))))) ?_
                refine at_retH (fun _ hw => Acc.closes hw.front1.front2.drop3 (nst_app hv).symm (cnt_put es e)) Try.func19 (res1 rfl rfl) ?_
                have hpe : perr es e = 0 := perr0 hv hold hdup hwd
                exact ⟨by rw [hpe], by rw [pnext_yes hpe]⟩
  ·
    rw [decide_eq_false hv]
    refine wl_read rfl rfl rfl (yl_notF rfl rfl) ?_
    refine wl_read rfl rfl rfl (yl_pickF rfl rfl rfl) ?_
    refine wl_nil ?_
    refine at_keep (Keep.cons 0 rfl (Keep.cons 1 rfl (Keep.cons 3 rfl (Keep.cons 4 rfl (Keep.cons 13 rfl Keep.nil))))) ?_
    refine at_true rfl ?_
    refine at_seq ?_
    refine at_region ?_
    refine wl_read rfl rfl rfl (yl_assign rfl rfl) ?_
    refine wl_nil ?_
    refine at_keep (Keep.cons 0 rfl (Keep.cons 1 rfl (Keep.cons 3 rfl (Keep.cons 4 rfl (Keep.cons 13 rfl Keep.nil))))) ?_
    refine at_retH (fun _ hw => Acc.closes hw.front3.front3.front3.drop3 rfl rfl) Try.func19 (res1 rfl rfl) ?_
    have hpe : perr es e = 1 := perr1 hv
    exact ⟨by rw [hpe], by rw [pnext_no (by rw [hpe]; decide)]⟩
theorem post_nil (e : Entry) (b : World) (H : List Asr) : Fn Try.prog 19 [.pointer none, .agg (Enc.cells e).toArray] b H (fun v H' => v = .int .i64 1 ∧ H = H') := by
  refine fn_of_at (by kernel_rfl) Try.func19 rfl Try.ntmps19 rfl rfl ?_
  refine at_seq ?_
  refine at_region ?_
  refine wl_eff rfl rfl rfl (ef_box rfl rfl rfl) ?_
  rintro _ _ ⟨g0, rfl, rfl⟩
  refine wl_read rfl rfl rfl (yl_assign rfl rfl) ?_
  refine wl_nil ?_
  refine at_keep (Keep.cons 0 rfl (Keep.cons 1 rfl (Keep.cons 3 rfl (Keep.cons 4 rfl Keep.nil)))) ?_
  refine at_seq ?_
  refine at_seq ?_
  refine at_region ?_
  refine wl_read rfl rfl rfl (yl_move rfl rfl) ?_
  refine wl_read rfl rfl rfl (yl_eqPtr rfl rfl rfl (by kernel_rfl) rfl) ?_
  refine wl_read rfl rfl rfl (yl_move rfl rfl) ?_
  refine wl_skip rfl rfl rfl ?_
  refine wl_skip rfl rfl rfl ?_
  refine wl_skip rfl rfl rfl ?_
  refine wl_read rfl rfl rfl (yl_pickT rfl rfl rfl) ?_
  refine wl_nil ?_
  refine at_keep (Keep.cons 0 rfl (Keep.cons 1 rfl (Keep.cons 3 rfl (Keep.cons 4 rfl (Keep.cons 13 rfl Keep.nil))))) ?_
  refine at_true rfl ?_
  refine at_seq ?_
  refine at_region ?_
  refine wl_read rfl rfl rfl (yl_assign rfl rfl) ?_
  refine wl_nil ?_
  refine at_keep (Keep.cons 0 rfl (Keep.cons 1 rfl (Keep.cons 3 rfl (Keep.cons 4 rfl (Keep.cons 13 rfl Keep.nil))))) ?_
  refine at_retH (fun _ hw => hw.tail) Try.func19 (res1 rfl rfl) ?_
  exact ⟨rfl, rfl⟩
theorem rpost_fn (es : List Entry) (e : Entry) (g : Nat) (b : World) (H : List Asr) (hg : Good es) (hl : es.length ≤ 999) : Fn Try.prog 22 [.pointer (some ⟨g, 0, none⟩), .agg (Enc.cells e).toArray] b (RAcc g es :: H) (fun v H' => v = .int .i64 (perr es e) ∧ RAcc g (pnext es e) :: H = H') := by
  refine RAcc.fn fun A c => ?_
  have hbd := hg.bound
  refine fn_of_at (by kernel_rfl) Try.func22 rfl Try.ntmps22 rfl rfl ?_
  refine at_seq ?_
  refine at_region ?_
  refine wl_eff rfl rfl rfl (ef_box rfl rfl rfl) ?_
  rintro _ _ ⟨g0, rfl, rfl⟩
  refine wl_read rfl rfl rfl (yl_assign rfl rfl) ?_
  refine wl_nil ?_
  refine at_keep (Keep.cons 0 rfl (Keep.cons 1 rfl (Keep.cons 3 rfl (Keep.cons 4 rfl Keep.nil)))) ?_
  refine at_seq ?_
  refine at_seq ?_
  refine at_region ?_
  refine wl_read rfl rfl rfl (yl_loadBk 0 rfl rfl rfl Try.underlying33 rfl (by kernel_rfl)) ?_
  refine wl_call rfl rfl rfl (en_call rfl rfl) (entry_fn e _ _) ?_
  rintro _ _ ⟨rfl, rfl⟩
  rcases Classical.em (okE e) with hv | hv
  ·
    rw [decide_eq_true hv]
    refine wl_read rfl rfl rfl (yl_notT rfl rfl) ?_
    refine wl_nil ?_
    refine at_keep (Keep.cons 0 rfl (Keep.cons 1 rfl (Keep.cons 3 rfl (Keep.cons 4 rfl (Keep.cons 9 rfl Keep.nil))))) ?_
    refine at_false rfl ?_
    refine at_skip ?_
    refine at_seq ?_
    refine at_seq ?_
    have hv1 := hv.1
    refine at_region ?_
    refine wl_read rfl rfl rfl (yl_assign rfl rfl) ?_
    refine wl_nil ?_
    refine at_keep (Keep.cons 0 rfl (Keep.cons 1 rfl (Keep.cons 3 rfl (Keep.cons 4 rfl (Keep.cons 5 rfl (Keep.cons 9 rfl Keep.nil)))))) ?_
    refine at_block ?_
    refine at_keep (L' := (fun (k : Nat) => [(0, .pointer (some ⟨g, 0, none⟩)), (3, .pointer (some ⟨g0, 0, none⟩)), (5, .int .i64 (k : Int))]) 0) (Keep.consEq 0 rfl rfl (Keep.consEq 3 rfl rfl (Keep.consEq 5 rfl rfl Keep.nil))) ?_
    refine at_loop1 (fun (k : Nat) => k ≤ es.length ∧ ∀ i, i < k → ¬ e.month < (at_ es i).month) (fun (k : Nat) => [(0, .pointer (some ⟨g, 0, none⟩)), (3, .pointer (some ⟨g0, 0, none⟩)), (5, .int .i64 (k : Int))]) (fun (k : Nat) => Bk g0 33 (Enc.cells e) :: Bk g 45 [.slice A es.length c] :: Sl A c 33 es :: H) (fun (k : Nat) => es.length - k) 0 ⟨by omega, fun i hi => absurd hi (by omega)⟩ ?_
    intro k hI ih
    obtain ⟨hI1, hI2⟩ := hI
    refine at_seq ?_
    refine at_seq ?_
    refine at_region ?_
    refine wl_read rfl rfl rfl (yl_move rfl rfl) ?_
    refine wl_read rfl rfl rfl (yl_move rfl rfl) ?_
    refine wl_read rfl rfl rfl (yl_nilCheck rfl rfl) ?_
    refine wl_read rfl rfl rfl (yl_fieldB rfl rfl Try.underlying45 rfl (by kernel_rfl) rfl) ?_
    refine wl_read rfl rfl rfl (yl_load rfl rfl Try.underlying27 rfl (CellAt.bk 1 rfl rfl)) ?_
    refine wl_read rfl rfl rfl (yl_len rfl rfl Try.underlying27) ?_
    refine wl_split rfl rfl rfl (yp_lss rfl rfl rfl) ?_ ?_
    · intro h4_6
      refine wl_nil ?_
      refine at_keep (Keep.cons 0 rfl (Keep.cons 3 rfl (Keep.cons 5 rfl (Keep.cons 16 rfl Keep.nil)))) ?_
      refine at_true rfl ?_
      refine at_skip ?_
      refine at_seq ?_
      refine at_block ?_
      refine at_seq ?_
      have hk1 : k < es.length := by omega
      refine at_draw0 (.fl 0 (.fl 1 (.fl 2 (.fl 3 (.fl 4 (.fl 5 (.fl 6 (.fl 7 (.fl 8 (.fl 9 (.fl 10 .nil))))))))))) (by kernel_rfl) (by kernel_rfl) ?_
      refine wt_read rfl rfl rfl rfl (yl_move rfl rfl) ?_
      refine wt_read rfl rfl rfl rfl (yl_nilCheck rfl rfl) ?_
      refine wt_read rfl rfl rfl rfl (yl_fieldB rfl rfl Try.underlying45 rfl (by kernel_rfl) rfl) ?_
      refine wt_read rfl rfl rfl rfl (yl_load rfl rfl Try.underlying27 rfl (CellAt.bk 1 rfl rfl)) ?_
      refine wt_read rfl rfl rfl rfl (yl_move rfl rfl) ?_
      refine wt_read rfl rfl rfl rfl (yl_index rfl rfl rfl (Rd.of_sl 2 rfl) (at_some hk1) rfl rfl Try.underlying27 (by kernel_rfl) rfl) ?_
      refine wt_read rfl rfl rfl rfl (yl_field rfl rfl Try.underlying33 rfl (by kernel_rfl) rfl) ?_
      refine wt_read rfl rfl rfl rfl (yl_load rfl rfl Try.underlying3 rfl ((Rd.of_sl 2 rfl).cell2 (at_some hk1) rfl)) ?_
      refine wt_read rfl rfl rfl rfl (yl_fieldB rfl rfl Try.underlying33 rfl (by kernel_rfl) rfl) ?_
      refine wt_read rfl rfl rfl rfl (yl_load rfl rfl Try.underlying3 rfl (CellAt.bk 0 rfl rfl)) ?_
      refine wt_split rfl rfl rfl rfl (yp_gtr rfl rfl rfl) ?_ ?_
      · intro h6_10
        refine wt_nil ?_
        refine at_keep (Keep.cons 0 rfl (Keep.cons 3 rfl (Keep.cons 5 rfl (Keep.cons 16 rfl (Keep.cons 29 rfl Keep.nil))))) ?_
        refine at_true rfl ?_
        refine at_seq ?_
        have hold : old es e.month := old_iff.2 ⟨k, hk1, h6_10⟩
        refine at_region ?_
        refine wl_read rfl rfl rfl (yl_assign rfl rfl) ?_
        refine wl_nil ?_
        refine at_keep (Keep.cons 0 rfl (Keep.cons 3 rfl (Keep.cons 4 rfl (Keep.cons 5 rfl (Keep.cons 16 rfl (Keep.cons 29 rfl Keep.nil)))))) ?_
        refine at_retH (fun _ hw => RAcc.closes hw.front2.front2.drop2) Try.func22 (res1 rfl rfl) ?_
        have hpe : perr es e = 13 := perr13 hv hold
        exact ⟨by rw [hpe], by rw [pnext_no (by rw [hpe]; decide)]⟩
      · intro h6_10
        refine wt_nil ?_
        refine at_keep (Keep.cons 0 rfl (Keep.cons 3 rfl (Keep.cons 5 rfl (Keep.cons 16 rfl (Keep.cons 29 rfl Keep.nil))))) ?_
        refine at_false rfl ?_
        refine at_skip ?_
        refine at_inBlock ?_
        refine at_region ?_
        refine wl_read rfl rfl rfl (yl_move rfl rfl) ?_
        refine wl_read rfl rfl rfl (yl_add rfl rfl rfl (w64 (by omega) (by omega))) ?_
        refine wl_read rfl rfl rfl (yl_assign rfl rfl) ?_
        refine wl_nil ?_
        refine at_keep (Keep.cons 0 rfl (Keep.cons 3 rfl (Keep.cons 5 rfl (Keep.cons 16 rfl (Keep.cons 29 rfl Keep.nil))))) ?_
        exact at_keep (L' := (fun (k : Nat) => [(0, .pointer (some ⟨g, 0, none⟩)), (3, .pointer (some ⟨g0, 0, none⟩)), (5, .int .i64 (k : Int))]) (k + 1)) (Keep.consEq 0 rfl rfl (Keep.consEq 3 rfl rfl (Keep.consEq 5 rfl rfl Keep.nil))) (ih (k + 1) ⟨by omega, fun i hi => by
      rcases Nat.lt_or_ge i k with h | h
      · exact hI2 i h
      · obtain rfl : i = k := by omega
        exact h6_10⟩ (by omega))
    · intro h4_6
      refine wl_nil ?_
      refine at_keep (Keep.cons 0 rfl (Keep.cons 3 rfl (Keep.cons 5 rfl (Keep.cons 16 rfl Keep.nil)))) ?_
      refine at_false rfl ?_
      refine at_exit rfl ?_
      refine at_seq ?_
      refine at_seq ?_
      have hold : ¬ old es e.month := fun h => by
        obtain ⟨i, hi, hm⟩ := old_iff.1 h
        exact hI2 i (by omega) hm
      refine at_region ?_
      refine wl_read rfl rfl rfl (yl_fieldB rfl rfl Try.underlying33 rfl (by kernel_rfl) rfl) ?_
      refine wl_read rfl rfl rfl (yl_load rfl rfl Try.underlying3 rfl (CellAt.bk 0 rfl rfl)) ?_
      refine wl_split rfl rfl rfl (yp_neq rfl rfl rfl) ?_ ?_
      · intro h8_2
        refine wl_read rfl rfl rfl (yl_move rfl rfl) ?_
        refine wl_read rfl rfl rfl (yl_move rfl rfl) ?_
        refine wl_read rfl rfl rfl (yl_fieldB rfl rfl Try.underlying33 rfl (by kernel_rfl) rfl) ?_
        refine wl_read rfl rfl rfl (yl_load rfl rfl Try.underlying3 rfl (CellAt.bk 0 rfl rfl)) ?_
        refine wl_read rfl rfl rfl (yl_fieldB rfl rfl Try.underlying33 rfl (by kernel_rfl) rfl) ?_
        refine wl_read rfl rfl rfl (yl_load rfl rfl Try.underlying3 rfl (CellAt.bk 0 rfl rfl)) ?_
        refine wl_read rfl rfl rfl (yl_fieldB rfl rfl Try.underlying33 rfl (by kernel_rfl) rfl) ?_
        refine wl_read rfl rfl rfl (yl_load rfl rfl Try.underlying3 rfl (CellAt.bk 0 rfl rfl)) ?_
        refine wl_call rfl rfl rfl (en_call rfl rfl) (rhas_at es g _ _ e.key (by omega) (CellAt.bk 1 rfl rfl) (Rd.of_sl 2 rfl)) ?_
        rintro _ _ ⟨rfl, rfl⟩
        rcases Classical.em (0 < cnt es e.key) with hh | hh
        ·
          rw [decide_eq_true hh]
          refine wl_read rfl rfl rfl (yl_pickT rfl rfl rfl) ?_
          refine wl_nil ?_
          refine at_keep (Keep.cons 0 rfl (Keep.cons 3 rfl (Keep.cons 5 rfl (Keep.cons 16 rfl (Keep.cons 42 rfl Keep.nil))))) ?_
          refine at_true rfl ?_
          refine at_seq ?_
          have hdup : e.kind ≠ 1 ∧ 0 < cnt es e.key := ⟨h8_2, hh⟩
          refine at_region ?_
          refine wl_read rfl rfl rfl (yl_assign rfl rfl) ?_
          refine wl_nil ?_
          refine at_keep (Keep.cons 0 rfl (Keep.cons 3 rfl (Keep.cons 4 rfl (Keep.cons 5 rfl (Keep.cons 16 rfl (Keep.cons 42 rfl Keep.nil)))))) ?_
          refine at_retH (fun _ hw => RAcc.closes hw.front2.front2.drop2) Try.func22 (res1 rfl rfl) ?_
          have hpe : perr es e = 10 := perr10 hv hold hdup
          exact ⟨by rw [hpe], by rw [pnext_no (by rw [hpe]; decide)]⟩
        ·
          rw [decide_eq_false hh]
          refine wl_read rfl rfl rfl (yl_pickT rfl rfl rfl) ?_
          refine wl_nil ?_
          refine at_keep (Keep.cons 0 rfl (Keep.cons 3 rfl (Keep.cons 5 rfl (Keep.cons 16 rfl (Keep.cons 42 rfl Keep.nil))))) ?_
          refine at_false rfl ?_
          refine at_skip ?_
          refine at_seq ?_
          have hdup : ¬ (e.kind ≠ 1 ∧ 0 < cnt es e.key) := fun h => hh h.2
          refine at_draw0 (.fl 0 (.fl 2 (.fl 3 (.ef 1 (.fl 4 (.fl 5 .nil)))))) (by kernel_rfl) (by kernel_rfl) ?_
          refine wt_read rfl rfl rfl rfl (yl_move rfl rfl) ?_
          refine wt_read rfl rfl rfl rfl (yl_fieldB rfl rfl Try.underlying33 rfl (by kernel_rfl) rfl) ?_
          refine wt_read rfl rfl rfl rfl (yl_load rfl rfl Try.underlying3 rfl (CellAt.bk 0 rfl rfl)) ?_
          refine wt_call rfl rfl rfl rfl (en_call rfl rfl) (rsettled_at es g _ _ hg (by omega) (CellAt.bk 1 rfl rfl) (Rd.of_sl 2 rfl)) ?_
          rintro _ _ ⟨rfl, rfl⟩
          refine ⟨⟨[], rfl⟩, ?_⟩
          refine wt_read rfl rfl rfl rfl (yl_add rfl rfl rfl (w64 (by omega) (by omega))) ?_
          refine wt_read rfl rfl rfl rfl (yl_assign rfl rfl) ?_
          refine wt_nil ?_
          refine at_keep (Keep.cons 0 rfl (Keep.cons 3 rfl (Keep.cons 5 rfl (Keep.cons 6 rfl (Keep.cons 16 rfl (Keep.cons 42 rfl Keep.nil)))))) ?_
          refine at_seq ?_
          refine at_seq ?_
          refine at_region ?_
          refine wl_read rfl rfl rfl (yl_fieldB rfl rfl Try.underlying33 rfl (by kernel_rfl) rfl) ?_
          refine wl_read rfl rfl rfl (yl_load rfl rfl Try.underlying3 rfl (CellAt.bk 0 rfl rfl)) ?_
          refine wl_split rfl rfl rfl (yp_eql rfl rfl rfl) ?_ ?_
          · intro h11_2
            refine wl_nil ?_
            refine at_keep (Keep.cons 0 rfl (Keep.cons 3 rfl (Keep.cons 5 rfl (Keep.cons 6 rfl (Keep.cons 16 rfl (Keep.cons 42 rfl (Keep.cons 50 rfl Keep.nil))))))) ?_
            refine at_true rfl ?_
            refine at_draw0 (.fl 0 (.fl 2 (.fl 3 (.ef 1 (.fl 4 (.fl 5 .nil)))))) (by kernel_rfl) (by kernel_rfl) ?_
            refine wt_read rfl rfl rfl rfl (yl_move rfl rfl) ?_
            refine wt_read rfl rfl rfl rfl (yl_fieldB rfl rfl Try.underlying33 rfl (by kernel_rfl) rfl) ?_
            refine wt_read rfl rfl rfl rfl (yl_load rfl rfl Try.underlying3 rfl (CellAt.bk 0 rfl rfl)) ?_
            refine wt_call rfl rfl rfl rfl (en_call rfl rfl) (rsettled_at es g _ _ hg (by omega) (CellAt.bk 1 rfl rfl) (Rd.of_sl 2 rfl)) ?_
            rintro _ _ ⟨rfl, rfl⟩
            refine ⟨⟨[], rfl⟩, ?_⟩
            refine wt_read rfl rfl rfl rfl (yl_sub rfl rfl rfl (w64 (by omega) (by omega))) ?_
            refine wt_read rfl rfl rfl rfl (yl_assign rfl rfl) ?_
            refine wt_nil ?_
            refine at_keep (Keep.cons 0 rfl (Keep.cons 3 rfl (Keep.cons 5 rfl (Keep.cons 6 rfl (Keep.cons 16 rfl (Keep.cons 42 rfl (Keep.cons 50 rfl Keep.nil))))))) ?_
            refine at_seq ?_
            refine at_seq ?_
            have hns : nst es e = stl es - e.amount := by unfold nst; rw [if_pos h11_2]
            refine at_region ?_
            refine wl_read rfl rfl rfl (yl_move rfl rfl) ?_
            refine wl_split rfl rfl rfl (yp_lss rfl rfl rfl) ?_ ?_
            · intro h13_1
              refine wl_read rfl rfl rfl (yl_move rfl rfl) ?_
              refine wl_skip rfl rfl rfl ?_
              refine wl_skip rfl rfl rfl ?_
              refine wl_read rfl rfl rfl (yl_pickT rfl rfl rfl) ?_
              refine wl_nil ?_
              refine at_keep (Keep.cons 0 rfl (Keep.cons 3 rfl (Keep.cons 5 rfl (Keep.cons 6 rfl (Keep.cons 16 rfl (Keep.cons 42 rfl (Keep.cons 50 rfl (Keep.cons 61 rfl Keep.nil)))))))) ?_
              refine at_true rfl ?_
              refine at_seq ?_
              have hwd : wide (nst es e) := by unfold wide; omega
              refine at_region ?_
              refine wl_read rfl rfl rfl (yl_assign rfl rfl) ?_
              refine wl_nil ?_
              refine at_keep (Keep.cons 0 rfl (Keep.cons 3 rfl (Keep.cons 4 rfl (Keep.cons 5 rfl (Keep.cons 6 rfl (Keep.cons 16 rfl (Keep.cons 42 rfl (Keep.cons 50 rfl (Keep.cons 61 rfl Keep.nil))))))))) ?_
              refine at_retH (fun _ hw => RAcc.closes hw.front2.front2.drop2) Try.func22 (res1 rfl rfl) ?_
              have hpe : perr es e = 2 := perr2 hv hold hdup hwd
              exact ⟨by rw [hpe], by rw [pnext_no (by rw [hpe]; decide)]⟩
            · intro h13_1
              refine wl_read rfl rfl rfl (yl_move rfl rfl) ?_
              refine wl_read rfl rfl rfl (yl_move rfl rfl) ?_
              refine wl_split rfl rfl rfl (yp_gtr rfl rfl rfl) ?_ ?_
              · intro h13_4
                refine wl_read rfl rfl rfl (yl_pickF rfl rfl rfl) ?_
                refine wl_nil ?_
                refine at_keep (Keep.cons 0 rfl (Keep.cons 3 rfl (Keep.cons 5 rfl (Keep.cons 6 rfl (Keep.cons 16 rfl (Keep.cons 42 rfl (Keep.cons 50 rfl (Keep.cons 61 rfl Keep.nil)))))))) ?_
                refine at_true rfl ?_
                refine at_seq ?_
                have hwd : wide (nst es e) := by unfold wide; omega
                refine at_region ?_
                refine wl_read rfl rfl rfl (yl_assign rfl rfl) ?_
                refine wl_nil ?_
                refine at_keep (Keep.cons 0 rfl (Keep.cons 3 rfl (Keep.cons 4 rfl (Keep.cons 5 rfl (Keep.cons 6 rfl (Keep.cons 16 rfl (Keep.cons 42 rfl (Keep.cons 50 rfl (Keep.cons 61 rfl Keep.nil))))))))) ?_
                refine at_retH (fun _ hw => RAcc.closes hw.front2.front2.drop2) Try.func22 (res1 rfl rfl) ?_
                have hpe : perr es e = 2 := perr2 hv hold hdup hwd
                exact ⟨by rw [hpe], by rw [pnext_no (by rw [hpe]; decide)]⟩
              · intro h13_4
                refine wl_read rfl rfl rfl (yl_pickF rfl rfl rfl) ?_
                refine wl_nil ?_
                refine at_keep (Keep.cons 0 rfl (Keep.cons 3 rfl (Keep.cons 5 rfl (Keep.cons 6 rfl (Keep.cons 16 rfl (Keep.cons 42 rfl (Keep.cons 50 rfl (Keep.cons 61 rfl Keep.nil)))))))) ?_
                refine at_false rfl ?_
                refine at_skip ?_
                refine at_seq ?_
                have hwd : ¬ wide (nst es e) := by unfold wide; omega
                refine at_heap (fun _ hw => hw.front2.front1.front2) ?_
                refine at_draw1 (.fl 0 (.fl 1 (.fl 2 (.fl 3 (.fl 6 (.ef2 4 (.ef2 5 (.ef 7 (.ef 8 (.fl 9 (.fl 10 (.ef 11 .nil))))) 7 (.ef 5 (.ef 8 (.fl 9 (.fl 10 (.ef 11 .nil)))))) 7 (.ef 4 (.ef 5 (.ef 8 (.fl 9 (.fl 10 (.ef 11 .nil)))))))))))) (by kernel_rfl) (by kernel_rfl) ?_
                refine wt_read rfl rfl rfl rfl (yl_move rfl rfl) ?_
                refine wt_read rfl rfl rfl rfl (yl_move rfl rfl) ?_
                refine wt_read rfl rfl rfl rfl (yl_nilCheck rfl rfl) ?_
                refine wt_read rfl rfl rfl rfl (yl_fieldB rfl rfl Try.underlying45 rfl (by kernel_rfl) rfl) ?_
                refine wt_read rfl rfl rfl rfl (yl_loadBk 0 rfl rfl rfl Try.underlying33 rfl (by kernel_rfl)) ?_
                refine wt_two ?_ ?_
                ·
                  refine wt_readE rfl rfl rfl rfl (yl_load rfl rfl Try.underlying27 rfl (CellAt.bk 0 rfl rfl)) ⟨[_], rfl⟩ ?_
                  refine wt_two ?_ ?_
                  ·
                    refine wt_eff rfl rfl rfl rfl (ef_append0 (ys := es) rfl rfl rfl (Rd.of_sl 2 rfl) Try.underlying27 info33 rfl rfl (by simp only [maxLen]; omega) (by omega)) ?_
                    rintro _ _ ⟨A1, c1, rfl, rfl⟩
                    refine ⟨⟨[_, _], rfl⟩, ?_⟩
                    refine wt_eff rfl rfl rfl rfl (ef_buildSlice (e := 33) [e] rfl rfl (fun _ => by kernel_rfl) rfl rfl) ?_
                    rintro _ _ ⟨T15_7, rfl, rfl⟩
                    refine ⟨⟨[_, _, _], rfl⟩, ?_⟩
                    refine wt_eff rfl rfl rfl rfl (ef_append (ys := [e]) 1 rfl rfl rfl rfl (Rd.of_sl 0 rfl) Try.underlying27 info33 rfl rfl (by simp only [List.length_singleton, maxLen]; omega) (by simp only [List.length_singleton]; omega)) ?_
                    rintro _ _ ⟨A2, c2, rfl, hH⟩
                    simp only [List.set_cons_succ, List.set_cons_zero] at hH; subst hH
                    refine ⟨⟨[_, _, _], rfl⟩, ?_⟩
                    refine wt_read rfl rfl rfl rfl (yl_nilCheck rfl rfl) ?_
                    refine wt_read rfl rfl rfl rfl (yl_fieldB rfl rfl Try.underlying45 rfl (by kernel_rfl) rfl) ?_
                    refine wt_store rfl rfl rfl (es_at2 (es_store 2 rfl rfl rfl rfl (by kernel_rfl) rfl rfl)) ⟨[_, _, _], rfl⟩ ?_
                    refine wt_nil ?_
                    refine at_keep (Keep.cons 0 rfl (Keep.cons 3 rfl (Keep.cons 5 rfl (Keep.cons 6 rfl (Keep.cons 16 rfl (Keep.cons 42 rfl (Keep.cons 50 rfl (Keep.cons 61 rfl Keep.nil)))))))) ?_
                    refine at_seq ?_
                    refine at_region ?_
                    refine wl_read rfl rfl rfl (yl_assign rfl rfl) ?_
                    refine wl_nil ?_
                    refine at_keep (Keep.cons 0 rfl (Keep.cons 3 rfl (Keep.cons 4 rfl (Keep.cons 5 rfl (Keep.cons 6 rfl (Keep.cons 16 rfl (Keep.cons 42 rfl (Keep.cons 50 rfl (Keep.cons 61 rfl Keep.nil))))))))) ?_
                    refine at_retH (fun _ hw => RAcc.closes hw.front1.front2.drop2.drop2.drop2) Try.func22 (res1 rfl rfl) ?_
                    have hpe : perr es e = 0 := perr0 hv hold hdup hwd
                    exact ⟨by rw [hpe], by rw [pnext_yes hpe]⟩
                  ·
                    refine wt_eff rfl rfl rfl rfl (ef_buildSlice (e := 33) [e] rfl rfl (fun _ => by kernel_rfl) rfl rfl) ?_
                    rintro _ _ ⟨T15_7, rfl, rfl⟩
                    refine ⟨⟨[_, _], rfl⟩, ?_⟩
                    refine wt_eff rfl rfl rfl rfl (ef_append0 (ys := es) rfl rfl rfl (Rd.of_sl 3 rfl) Try.underlying27 info33 rfl rfl (by simp only [maxLen]; omega) (by omega)) ?_
                    rintro _ _ ⟨A1, c1, rfl, rfl⟩
                    refine ⟨⟨[_, _, _], rfl⟩, ?_⟩
                    refine wt_eff rfl rfl rfl rfl (ef_append (ys := [e]) 0 rfl rfl rfl rfl (Rd.of_sl 1 rfl) Try.underlying27 info33 rfl rfl (by simp only [List.length_singleton, maxLen]; omega) (by simp only [List.length_singleton]; omega)) ?_
                    rintro _ _ ⟨A2, c2, rfl, hH⟩
                    simp only [List.set_cons_succ, List.set_cons_zero] at hH; subst hH
                    refine ⟨⟨[_, _, _], rfl⟩, ?_⟩
                    refine wt_read rfl rfl rfl rfl (yl_nilCheck rfl rfl) ?_
                    refine wt_read rfl rfl rfl rfl (yl_fieldB rfl rfl Try.underlying45 rfl (by kernel_rfl) rfl) ?_
                    refine wt_store rfl rfl rfl (es_at2 (es_store 2 rfl rfl rfl rfl (by kernel_rfl) rfl rfl)) ⟨[_, _, _], rfl⟩ ?_
                    refine wt_nil ?_
                    refine at_keep (Keep.cons 0 rfl (Keep.cons 3 rfl (Keep.cons 5 rfl (Keep.cons 6 rfl (Keep.cons 16 rfl (Keep.cons 42 rfl (Keep.cons 50 rfl (Keep.cons 61 rfl Keep.nil)))))))) ?_
                    refine at_seq ?_
                    refine at_region ?_
                    refine wl_read rfl rfl rfl (yl_assign rfl rfl) ?_
                    refine wl_nil ?_
                    refine at_keep (Keep.cons 0 rfl (Keep.cons 3 rfl (Keep.cons 4 rfl (Keep.cons 5 rfl (Keep.cons 6 rfl (Keep.cons 16 rfl (Keep.cons 42 rfl (Keep.cons 50 rfl (Keep.cons 61 rfl Keep.nil))))))))) ?_
                    refine at_retH (fun _ hw => RAcc.closes hw.front2.drop2.drop2.drop2) Try.func22 (res1 rfl rfl) ?_
                    have hpe : perr es e = 0 := perr0 hv hold hdup hwd
                    exact ⟨by rw [hpe], by rw [pnext_yes hpe]⟩
                ·
                  refine wt_eff rfl rfl rfl rfl (ef_buildSlice (e := 33) [e] rfl rfl (fun _ => by kernel_rfl) rfl rfl) ?_
                  rintro _ _ ⟨T15_7, rfl, rfl⟩
                  refine ⟨⟨[_, _], rfl⟩, ?_⟩
                  refine wt_readE rfl rfl rfl rfl (yl_load rfl rfl Try.underlying27 rfl (CellAt.bk 1 rfl rfl)) ⟨[_, _], rfl⟩ ?_
                  refine wt_eff rfl rfl rfl rfl (ef_append0 (ys := es) rfl rfl rfl (Rd.of_sl 3 rfl) Try.underlying27 info33 rfl rfl (by simp only [maxLen]; omega) (by omega)) ?_
                  rintro _ _ ⟨A1, c1, rfl, rfl⟩
                  refine ⟨⟨[_, _, _], rfl⟩, ?_⟩
                  refine wt_eff rfl rfl rfl rfl (ef_append (ys := [e]) 0 rfl rfl rfl rfl (Rd.of_sl 1 rfl) Try.underlying27 info33 rfl rfl (by simp only [List.length_singleton, maxLen]; omega) (by simp only [List.length_singleton]; omega)) ?_
                  rintro _ _ ⟨A2, c2, rfl, hH⟩
                  simp only [List.set_cons_succ, List.set_cons_zero] at hH; subst hH
                  refine ⟨⟨[_, _, _], rfl⟩, ?_⟩
                  refine wt_read rfl rfl rfl rfl (yl_nilCheck rfl rfl) ?_
                  refine wt_read rfl rfl rfl rfl (yl_fieldB rfl rfl Try.underlying45 rfl (by kernel_rfl) rfl) ?_
                  refine wt_store rfl rfl rfl (es_at2 (es_store 2 rfl rfl rfl rfl (by kernel_rfl) rfl rfl)) ⟨[_, _, _], rfl⟩ ?_
                  refine wt_nil ?_
                  refine at_keep (Keep.cons 0 rfl (Keep.cons 3 rfl (Keep.cons 5 rfl (Keep.cons 6 rfl (Keep.cons 16 rfl (Keep.cons 42 rfl (Keep.cons 50 rfl (Keep.cons 61 rfl Keep.nil)))))))) ?_
                  refine at_seq ?_
                  refine at_region ?_
                  refine wl_read rfl rfl rfl (yl_assign rfl rfl) ?_
                  refine wl_nil ?_
                  refine at_keep (Keep.cons 0 rfl (Keep.cons 3 rfl (Keep.cons 4 rfl (Keep.cons 5 rfl (Keep.cons 6 rfl (Keep.cons 16 rfl (Keep.cons 42 rfl (Keep.cons 50 rfl (Keep.cons 61 rfl Keep.nil))))))))) ?_
                  refine at_retH (fun _ hw => RAcc.closes hw.front2.drop2.drop2.drop2) Try.func22 (res1 rfl rfl) ?_
                  have hpe : perr es e = 0 := perr0 hv hold hdup hwd
                  exact ⟨by rw [hpe], by rw [pnext_yes hpe]⟩
          · intro h11_2
            refine wl_nil ?_
            refine at_keep (Keep.cons 0 rfl (Keep.cons 3 rfl (Keep.cons 5 rfl (Keep.cons 6 rfl (Keep.cons 16 rfl (Keep.cons 42 rfl (Keep.cons 50 rfl Keep.nil))))))) ?_
            refine at_false rfl ?_
            refine at_skip ?_
            refine at_seq ?_
            refine at_seq ?_
            have hns : nst es e = stl es + e.amount := by unfold nst; rw [if_neg h11_2]
            refine at_region ?_
            refine wl_read rfl rfl rfl (yl_move rfl rfl) ?_
            refine wl_split rfl rfl rfl (yp_lss rfl rfl rfl) ?_ ?_
            · intro h13_1
              refine wl_read rfl rfl rfl (yl_move rfl rfl) ?_
              refine wl_skip rfl rfl rfl ?_
              refine wl_skip rfl rfl rfl ?_
              refine wl_read rfl rfl rfl (yl_pickT rfl rfl rfl) ?_
              refine wl_nil ?_
              refine at_keep (Keep.cons 0 rfl (Keep.cons 3 rfl (Keep.cons 5 rfl (Keep.cons 6 rfl (Keep.cons 16 rfl (Keep.cons 42 rfl (Keep.cons 50 rfl (Keep.cons 61 rfl Keep.nil)))))))) ?_
              refine at_true rfl ?_
              refine at_seq ?_
              have hwd : wide (nst es e) := by unfold wide; omega
              refine at_region ?_
              refine wl_read rfl rfl rfl (yl_assign rfl rfl) ?_
              refine wl_nil ?_
              refine at_keep (Keep.cons 0 rfl (Keep.cons 3 rfl (Keep.cons 4 rfl (Keep.cons 5 rfl (Keep.cons 6 rfl (Keep.cons 16 rfl (Keep.cons 42 rfl (Keep.cons 50 rfl (Keep.cons 61 rfl Keep.nil))))))))) ?_
              refine at_retH (fun _ hw => RAcc.closes hw.front2.front2.drop2) Try.func22 (res1 rfl rfl) ?_
              have hpe : perr es e = 2 := perr2 hv hold hdup hwd
              exact ⟨by rw [hpe], by rw [pnext_no (by rw [hpe]; decide)]⟩
            · intro h13_1
              refine wl_read rfl rfl rfl (yl_move rfl rfl) ?_
              refine wl_read rfl rfl rfl (yl_move rfl rfl) ?_
              refine wl_split rfl rfl rfl (yp_gtr rfl rfl rfl) ?_ ?_
              · intro h13_4
                refine wl_read rfl rfl rfl (yl_pickF rfl rfl rfl) ?_
                refine wl_nil ?_
                refine at_keep (Keep.cons 0 rfl (Keep.cons 3 rfl (Keep.cons 5 rfl (Keep.cons 6 rfl (Keep.cons 16 rfl (Keep.cons 42 rfl (Keep.cons 50 rfl (Keep.cons 61 rfl Keep.nil)))))))) ?_
                refine at_true rfl ?_
                refine at_seq ?_
                have hwd : wide (nst es e) := by unfold wide; omega
                refine at_region ?_
                refine wl_read rfl rfl rfl (yl_assign rfl rfl) ?_
                refine wl_nil ?_
                refine at_keep (Keep.cons 0 rfl (Keep.cons 3 rfl (Keep.cons 4 rfl (Keep.cons 5 rfl (Keep.cons 6 rfl (Keep.cons 16 rfl (Keep.cons 42 rfl (Keep.cons 50 rfl (Keep.cons 61 rfl Keep.nil))))))))) ?_
                refine at_retH (fun _ hw => RAcc.closes hw.front2.front2.drop2) Try.func22 (res1 rfl rfl) ?_
                have hpe : perr es e = 2 := perr2 hv hold hdup hwd
                exact ⟨by rw [hpe], by rw [pnext_no (by rw [hpe]; decide)]⟩
              · intro h13_4
                refine wl_read rfl rfl rfl (yl_pickF rfl rfl rfl) ?_
                refine wl_nil ?_
                refine at_keep (Keep.cons 0 rfl (Keep.cons 3 rfl (Keep.cons 5 rfl (Keep.cons 6 rfl (Keep.cons 16 rfl (Keep.cons 42 rfl (Keep.cons 50 rfl (Keep.cons 61 rfl Keep.nil)))))))) ?_
                refine at_false rfl ?_
                refine at_skip ?_
                refine at_seq ?_
                have hwd : ¬ wide (nst es e) := by unfold wide; omega
                refine at_heap (fun _ hw => hw.front2.front1.front2) ?_
                refine at_draw1 (.fl 0 (.fl 1 (.fl 2 (.fl 3 (.fl 6 (.ef2 4 (.ef2 5 (.ef 7 (.ef 8 (.fl 9 (.fl 10 (.ef 11 .nil))))) 7 (.ef 5 (.ef 8 (.fl 9 (.fl 10 (.ef 11 .nil)))))) 7 (.ef 4 (.ef 5 (.ef 8 (.fl 9 (.fl 10 (.ef 11 .nil)))))))))))) (by kernel_rfl) (by kernel_rfl) ?_
                refine wt_read rfl rfl rfl rfl (yl_move rfl rfl) ?_
                refine wt_read rfl rfl rfl rfl (yl_move rfl rfl) ?_
                refine wt_read rfl rfl rfl rfl (yl_nilCheck rfl rfl) ?_
                refine wt_read rfl rfl rfl rfl (yl_fieldB rfl rfl Try.underlying45 rfl (by kernel_rfl) rfl) ?_
                refine wt_read rfl rfl rfl rfl (yl_loadBk 0 rfl rfl rfl Try.underlying33 rfl (by kernel_rfl)) ?_
                refine wt_two ?_ ?_
                ·
                  refine wt_readE rfl rfl rfl rfl (yl_load rfl rfl Try.underlying27 rfl (CellAt.bk 0 rfl rfl)) ⟨[_], rfl⟩ ?_
                  refine wt_two ?_ ?_
                  ·
                    refine wt_eff rfl rfl rfl rfl (ef_append0 (ys := es) rfl rfl rfl (Rd.of_sl 2 rfl) Try.underlying27 info33 rfl rfl (by simp only [maxLen]; omega) (by omega)) ?_
                    rintro _ _ ⟨A1, c1, rfl, rfl⟩
                    refine ⟨⟨[_, _], rfl⟩, ?_⟩
                    refine wt_eff rfl rfl rfl rfl (ef_buildSlice (e := 33) [e] rfl rfl (fun _ => by kernel_rfl) rfl rfl) ?_
                    rintro _ _ ⟨T15_7, rfl, rfl⟩
                    refine ⟨⟨[_, _, _], rfl⟩, ?_⟩
                    refine wt_eff rfl rfl rfl rfl (ef_append (ys := [e]) 1 rfl rfl rfl rfl (Rd.of_sl 0 rfl) Try.underlying27 info33 rfl rfl (by simp only [List.length_singleton, maxLen]; omega) (by simp only [List.length_singleton]; omega)) ?_
                    rintro _ _ ⟨A2, c2, rfl, hH⟩
                    simp only [List.set_cons_succ, List.set_cons_zero] at hH; subst hH
                    refine ⟨⟨[_, _, _], rfl⟩, ?_⟩
                    refine wt_read rfl rfl rfl rfl (yl_nilCheck rfl rfl) ?_
                    refine wt_read rfl rfl rfl rfl (yl_fieldB rfl rfl Try.underlying45 rfl (by kernel_rfl) rfl) ?_
                    refine wt_store rfl rfl rfl (es_at2 (es_store 2 rfl rfl rfl rfl (by kernel_rfl) rfl rfl)) ⟨[_, _, _], rfl⟩ ?_
                    refine wt_nil ?_
                    refine at_keep (Keep.cons 0 rfl (Keep.cons 3 rfl (Keep.cons 5 rfl (Keep.cons 6 rfl (Keep.cons 16 rfl (Keep.cons 42 rfl (Keep.cons 50 rfl (Keep.cons 61 rfl Keep.nil)))))))) ?_
                    refine at_seq ?_
                    refine at_region ?_
                    refine wl_read rfl rfl rfl (yl_assign rfl rfl) ?_
                    refine wl_nil ?_
                    refine at_keep (Keep.cons 0 rfl (Keep.cons 3 rfl (Keep.cons 4 rfl (Keep.cons 5 rfl (Keep.cons 6 rfl (Keep.cons 16 rfl (Keep.cons 42 rfl (Keep.cons 50 rfl (Keep.cons 61 rfl Keep.nil))))))))) ?_
                    refine at_retH (fun _ hw => RAcc.closes hw.front1.front2.drop2.drop2.drop2) Try.func22 (res1 rfl rfl) ?_
                    have hpe : perr es e = 0 := perr0 hv hold hdup hwd
                    exact ⟨by rw [hpe], by rw [pnext_yes hpe]⟩
                  ·
                    refine wt_eff rfl rfl rfl rfl (ef_buildSlice (e := 33) [e] rfl rfl (fun _ => by kernel_rfl) rfl rfl) ?_
                    rintro _ _ ⟨T15_7, rfl, rfl⟩
                    refine ⟨⟨[_, _], rfl⟩, ?_⟩
                    refine wt_eff rfl rfl rfl rfl (ef_append0 (ys := es) rfl rfl rfl (Rd.of_sl 3 rfl) Try.underlying27 info33 rfl rfl (by simp only [maxLen]; omega) (by omega)) ?_
                    rintro _ _ ⟨A1, c1, rfl, rfl⟩
                    refine ⟨⟨[_, _, _], rfl⟩, ?_⟩
                    refine wt_eff rfl rfl rfl rfl (ef_append (ys := [e]) 0 rfl rfl rfl rfl (Rd.of_sl 1 rfl) Try.underlying27 info33 rfl rfl (by simp only [List.length_singleton, maxLen]; omega) (by simp only [List.length_singleton]; omega)) ?_
                    rintro _ _ ⟨A2, c2, rfl, hH⟩
                    simp only [List.set_cons_succ, List.set_cons_zero] at hH; subst hH
                    refine ⟨⟨[_, _, _], rfl⟩, ?_⟩
                    refine wt_read rfl rfl rfl rfl (yl_nilCheck rfl rfl) ?_
                    refine wt_read rfl rfl rfl rfl (yl_fieldB rfl rfl Try.underlying45 rfl (by kernel_rfl) rfl) ?_
                    refine wt_store rfl rfl rfl (es_at2 (es_store 2 rfl rfl rfl rfl (by kernel_rfl) rfl rfl)) ⟨[_, _, _], rfl⟩ ?_
                    refine wt_nil ?_
                    refine at_keep (Keep.cons 0 rfl (Keep.cons 3 rfl (Keep.cons 5 rfl (Keep.cons 6 rfl (Keep.cons 16 rfl (Keep.cons 42 rfl (Keep.cons 50 rfl (Keep.cons 61 rfl Keep.nil)))))))) ?_
                    refine at_seq ?_
                    refine at_region ?_
                    refine wl_read rfl rfl rfl (yl_assign rfl rfl) ?_
                    refine wl_nil ?_
                    refine at_keep (Keep.cons 0 rfl (Keep.cons 3 rfl (Keep.cons 4 rfl (Keep.cons 5 rfl (Keep.cons 6 rfl (Keep.cons 16 rfl (Keep.cons 42 rfl (Keep.cons 50 rfl (Keep.cons 61 rfl Keep.nil))))))))) ?_
                    refine at_retH (fun _ hw => RAcc.closes hw.front2.drop2.drop2.drop2) Try.func22 (res1 rfl rfl) ?_
                    have hpe : perr es e = 0 := perr0 hv hold hdup hwd
                    exact ⟨by rw [hpe], by rw [pnext_yes hpe]⟩
                ·
                  refine wt_eff rfl rfl rfl rfl (ef_buildSlice (e := 33) [e] rfl rfl (fun _ => by kernel_rfl) rfl rfl) ?_
                  rintro _ _ ⟨T15_7, rfl, rfl⟩
                  refine ⟨⟨[_, _], rfl⟩, ?_⟩
                  refine wt_readE rfl rfl rfl rfl (yl_load rfl rfl Try.underlying27 rfl (CellAt.bk 1 rfl rfl)) ⟨[_, _], rfl⟩ ?_
                  refine wt_eff rfl rfl rfl rfl (ef_append0 (ys := es) rfl rfl rfl (Rd.of_sl 3 rfl) Try.underlying27 info33 rfl rfl (by simp only [maxLen]; omega) (by omega)) ?_
                  rintro _ _ ⟨A1, c1, rfl, rfl⟩
                  refine ⟨⟨[_, _, _], rfl⟩, ?_⟩
                  refine wt_eff rfl rfl rfl rfl (ef_append (ys := [e]) 0 rfl rfl rfl rfl (Rd.of_sl 1 rfl) Try.underlying27 info33 rfl rfl (by simp only [List.length_singleton, maxLen]; omega) (by simp only [List.length_singleton]; omega)) ?_
                  rintro _ _ ⟨A2, c2, rfl, hH⟩
                  simp only [List.set_cons_succ, List.set_cons_zero] at hH; subst hH
                  refine ⟨⟨[_, _, _], rfl⟩, ?_⟩
                  refine wt_read rfl rfl rfl rfl (yl_nilCheck rfl rfl) ?_
                  refine wt_read rfl rfl rfl rfl (yl_fieldB rfl rfl Try.underlying45 rfl (by kernel_rfl) rfl) ?_
                  refine wt_store rfl rfl rfl (es_at2 (es_store 2 rfl rfl rfl rfl (by kernel_rfl) rfl rfl)) ⟨[_, _, _], rfl⟩ ?_
                  refine wt_nil ?_
                  refine at_keep (Keep.cons 0 rfl (Keep.cons 3 rfl (Keep.cons 5 rfl (Keep.cons 6 rfl (Keep.cons 16 rfl (Keep.cons 42 rfl (Keep.cons 50 rfl (Keep.cons 61 rfl Keep.nil)))))))) ?_
                  refine at_seq ?_
                  refine at_region ?_
                  refine wl_read rfl rfl rfl (yl_assign rfl rfl) ?_
                  refine wl_nil ?_
                  refine at_keep (Keep.cons 0 rfl (Keep.cons 3 rfl (Keep.cons 4 rfl (Keep.cons 5 rfl (Keep.cons 6 rfl (Keep.cons 16 rfl (Keep.cons 42 rfl (Keep.cons 50 rfl (Keep.cons 61 rfl Keep.nil))))))))) ?_
                  refine at_retH (fun _ hw => RAcc.closes hw.front2.drop2.drop2.drop2) Try.func22 (res1 rfl rfl) ?_
                  have hpe : perr es e = 0 := perr0 hv hold hdup hwd
                  exact ⟨by rw [hpe], by rw [pnext_yes hpe]⟩
      · intro h8_2
        refine wl_read rfl rfl rfl (yl_move rfl rfl) ?_
        refine wl_skip rfl rfl rfl ?_
        refine wl_skip rfl rfl rfl ?_
        refine wl_skip rfl rfl rfl ?_
        refine wl_skip rfl rfl rfl ?_
        refine wl_skip rfl rfl rfl ?_
        refine wl_skip rfl rfl rfl ?_
        refine wl_skip rfl rfl rfl ?_
        refine wl_skip rfl rfl rfl ?_
        refine wl_read rfl rfl rfl (yl_pickF rfl rfl rfl) ?_
        refine wl_nil ?_
        refine at_keep (Keep.cons 0 rfl (Keep.cons 3 rfl (Keep.cons 5 rfl (Keep.cons 16 rfl (Keep.cons 42 rfl Keep.nil))))) ?_
        refine at_false rfl ?_
        refine at_skip ?_
        refine at_seq ?_
        have hdup : ¬ (e.kind ≠ 1 ∧ 0 < cnt es e.key) := fun h => h8_2 h.1
        refine at_draw0 (.fl 0 (.fl 2 (.fl 3 (.ef 1 (.fl 4 (.fl 5 .nil)))))) (by kernel_rfl) (by kernel_rfl) ?_
        refine wt_read rfl rfl rfl rfl (yl_move rfl rfl) ?_
        refine wt_read rfl rfl rfl rfl (yl_fieldB rfl rfl Try.underlying33 rfl (by kernel_rfl) rfl) ?_
        refine wt_read rfl rfl rfl rfl (yl_load rfl rfl Try.underlying3 rfl (CellAt.bk 0 rfl rfl)) ?_
        refine wt_call rfl rfl rfl rfl (en_call rfl rfl) (rsettled_at es g _ _ hg (by omega) (CellAt.bk 1 rfl rfl) (Rd.of_sl 2 rfl)) ?_
        rintro _ _ ⟨rfl, rfl⟩
        refine ⟨⟨[], rfl⟩, ?_⟩
        refine wt_read rfl rfl rfl rfl (yl_add rfl rfl rfl (w64 (by omega) (by omega))) ?_
        refine wt_read rfl rfl rfl rfl (yl_assign rfl rfl) ?_
        refine wt_nil ?_
        refine at_keep (Keep.cons 0 rfl (Keep.cons 3 rfl (Keep.cons 5 rfl (Keep.cons 6 rfl (Keep.cons 16 rfl (Keep.cons 42 rfl Keep.nil)))))) ?_
        refine at_seq ?_
        refine at_seq ?_
        refine at_region ?_
        refine wl_read rfl rfl rfl (yl_fieldB rfl rfl Try.underlying33 rfl (by kernel_rfl) rfl) ?_
        refine wl_read rfl rfl rfl (yl_load rfl rfl Try.underlying3 rfl (CellAt.bk 0 rfl rfl)) ?_
        refine wl_split rfl rfl rfl (yp_eql rfl rfl rfl) ?_ ?_
        · intro h11_2
          refine wl_nil ?_
          refine at_keep (Keep.cons 0 rfl (Keep.cons 3 rfl (Keep.cons 5 rfl (Keep.cons 6 rfl (Keep.cons 16 rfl (Keep.cons 42 rfl (Keep.cons 50 rfl Keep.nil))))))) ?_
          refine at_true rfl ?_
          refine at_draw0 (.fl 0 (.fl 2 (.fl 3 (.ef 1 (.fl 4 (.fl 5 .nil)))))) (by kernel_rfl) (by kernel_rfl) ?_
          refine wt_read rfl rfl rfl rfl (yl_move rfl rfl) ?_
          refine wt_read rfl rfl rfl rfl (yl_fieldB rfl rfl Try.underlying33 rfl (by kernel_rfl) rfl) ?_
          refine wt_read rfl rfl rfl rfl (yl_load rfl rfl Try.underlying3 rfl (CellAt.bk 0 rfl rfl)) ?_
          refine wt_call rfl rfl rfl rfl (en_call rfl rfl) (rsettled_at es g _ _ hg (by omega) (CellAt.bk 1 rfl rfl) (Rd.of_sl 2 rfl)) ?_
          rintro _ _ ⟨rfl, rfl⟩
          refine ⟨⟨[], rfl⟩, ?_⟩
          refine wt_read rfl rfl rfl rfl (yl_sub rfl rfl rfl (w64 (by omega) (by omega))) ?_
          refine wt_read rfl rfl rfl rfl (yl_assign rfl rfl) ?_
          refine wt_nil ?_
          refine at_keep (Keep.cons 0 rfl (Keep.cons 3 rfl (Keep.cons 5 rfl (Keep.cons 6 rfl (Keep.cons 16 rfl (Keep.cons 42 rfl (Keep.cons 50 rfl Keep.nil))))))) ?_
          refine at_seq ?_
          refine at_seq ?_
          have hns : nst es e = stl es - e.amount := by unfold nst; rw [if_pos h11_2]
          refine at_region ?_
          refine wl_read rfl rfl rfl (yl_move rfl rfl) ?_
          refine wl_split rfl rfl rfl (yp_lss rfl rfl rfl) ?_ ?_
          · intro h13_1
            refine wl_read rfl rfl rfl (yl_move rfl rfl) ?_
            refine wl_skip rfl rfl rfl ?_
            refine wl_skip rfl rfl rfl ?_
            refine wl_read rfl rfl rfl (yl_pickT rfl rfl rfl) ?_
            refine wl_nil ?_
            refine at_keep (Keep.cons 0 rfl (Keep.cons 3 rfl (Keep.cons 5 rfl (Keep.cons 6 rfl (Keep.cons 16 rfl (Keep.cons 42 rfl (Keep.cons 50 rfl (Keep.cons 61 rfl Keep.nil)))))))) ?_
            refine at_true rfl ?_
            refine at_seq ?_
            have hwd : wide (nst es e) := by unfold wide; omega
            refine at_region ?_
            refine wl_read rfl rfl rfl (yl_assign rfl rfl) ?_
            refine wl_nil ?_
            refine at_keep (Keep.cons 0 rfl (Keep.cons 3 rfl (Keep.cons 4 rfl (Keep.cons 5 rfl (Keep.cons 6 rfl (Keep.cons 16 rfl (Keep.cons 42 rfl (Keep.cons 50 rfl (Keep.cons 61 rfl Keep.nil))))))))) ?_
            refine at_retH (fun _ hw => RAcc.closes hw.front2.front2.drop2) Try.func22 (res1 rfl rfl) ?_
            have hpe : perr es e = 2 := perr2 hv hold hdup hwd
            exact ⟨by rw [hpe], by rw [pnext_no (by rw [hpe]; decide)]⟩
          · intro h13_1
            refine wl_read rfl rfl rfl (yl_move rfl rfl) ?_
            refine wl_read rfl rfl rfl (yl_move rfl rfl) ?_
            refine wl_split rfl rfl rfl (yp_gtr rfl rfl rfl) ?_ ?_
            · intro h13_4
              refine wl_read rfl rfl rfl (yl_pickF rfl rfl rfl) ?_
              refine wl_nil ?_
              refine at_keep (Keep.cons 0 rfl (Keep.cons 3 rfl (Keep.cons 5 rfl (Keep.cons 6 rfl (Keep.cons 16 rfl (Keep.cons 42 rfl (Keep.cons 50 rfl (Keep.cons 61 rfl Keep.nil)))))))) ?_
              refine at_true rfl ?_
              refine at_seq ?_
              have hwd : wide (nst es e) := by unfold wide; omega
              refine at_region ?_
              refine wl_read rfl rfl rfl (yl_assign rfl rfl) ?_
              refine wl_nil ?_
              refine at_keep (Keep.cons 0 rfl (Keep.cons 3 rfl (Keep.cons 4 rfl (Keep.cons 5 rfl (Keep.cons 6 rfl (Keep.cons 16 rfl (Keep.cons 42 rfl (Keep.cons 50 rfl (Keep.cons 61 rfl Keep.nil))))))))) ?_
              refine at_retH (fun _ hw => RAcc.closes hw.front2.front2.drop2) Try.func22 (res1 rfl rfl) ?_
              have hpe : perr es e = 2 := perr2 hv hold hdup hwd
              exact ⟨by rw [hpe], by rw [pnext_no (by rw [hpe]; decide)]⟩
            · intro h13_4
              refine wl_read rfl rfl rfl (yl_pickF rfl rfl rfl) ?_
              refine wl_nil ?_
              refine at_keep (Keep.cons 0 rfl (Keep.cons 3 rfl (Keep.cons 5 rfl (Keep.cons 6 rfl (Keep.cons 16 rfl (Keep.cons 42 rfl (Keep.cons 50 rfl (Keep.cons 61 rfl Keep.nil)))))))) ?_
              refine at_false rfl ?_
              refine at_skip ?_
              refine at_seq ?_
              have hwd : ¬ wide (nst es e) := by unfold wide; omega
              refine at_heap (fun _ hw => hw.front2.front1.front2) ?_
              refine at_draw1 (.fl 0 (.fl 1 (.fl 2 (.fl 3 (.fl 6 (.ef2 4 (.ef2 5 (.ef 7 (.ef 8 (.fl 9 (.fl 10 (.ef 11 .nil))))) 7 (.ef 5 (.ef 8 (.fl 9 (.fl 10 (.ef 11 .nil)))))) 7 (.ef 4 (.ef 5 (.ef 8 (.fl 9 (.fl 10 (.ef 11 .nil)))))))))))) (by kernel_rfl) (by kernel_rfl) ?_
              refine wt_read rfl rfl rfl rfl (yl_move rfl rfl) ?_
              refine wt_read rfl rfl rfl rfl (yl_move rfl rfl) ?_
              refine wt_read rfl rfl rfl rfl (yl_nilCheck rfl rfl) ?_
              refine wt_read rfl rfl rfl rfl (yl_fieldB rfl rfl Try.underlying45 rfl (by kernel_rfl) rfl) ?_
              refine wt_read rfl rfl rfl rfl (yl_loadBk 0 rfl rfl rfl Try.underlying33 rfl (by kernel_rfl)) ?_
              refine wt_two ?_ ?_
              ·
                refine wt_readE rfl rfl rfl rfl (yl_load rfl rfl Try.underlying27 rfl (CellAt.bk 0 rfl rfl)) ⟨[_], rfl⟩ ?_
                refine wt_two ?_ ?_
                ·
                  refine wt_eff rfl rfl rfl rfl (ef_append0 (ys := es) rfl rfl rfl (Rd.of_sl 2 rfl) Try.underlying27 info33 rfl rfl (by simp only [maxLen]; omega) (by omega)) ?_
                  rintro _ _ ⟨A1, c1, rfl, rfl⟩
                  refine ⟨⟨[_, _], rfl⟩, ?_⟩
                  refine wt_eff rfl rfl rfl rfl (ef_buildSlice (e := 33) [e] rfl rfl (fun _ => by kernel_rfl) rfl rfl) ?_
                  rintro _ _ ⟨T15_7, rfl, rfl⟩
                  refine ⟨⟨[_, _, _], rfl⟩, ?_⟩
                  refine wt_eff rfl rfl rfl rfl (ef_append (ys := [e]) 1 rfl rfl rfl rfl (Rd.of_sl 0 rfl) Try.underlying27 info33 rfl rfl (by simp only [List.length_singleton, maxLen]; omega) (by simp only [List.length_singleton]; omega)) ?_
                  rintro _ _ ⟨A2, c2, rfl, hH⟩
                  simp only [List.set_cons_succ, List.set_cons_zero] at hH; subst hH
                  refine ⟨⟨[_, _, _], rfl⟩, ?_⟩
                  refine wt_read rfl rfl rfl rfl (yl_nilCheck rfl rfl) ?_
                  refine wt_read rfl rfl rfl rfl (yl_fieldB rfl rfl Try.underlying45 rfl (by kernel_rfl) rfl) ?_
                  refine wt_store rfl rfl rfl (es_at2 (es_store 2 rfl rfl rfl rfl (by kernel_rfl) rfl rfl)) ⟨[_, _, _], rfl⟩ ?_
                  refine wt_nil ?_
                  refine at_keep (Keep.cons 0 rfl (Keep.cons 3 rfl (Keep.cons 5 rfl (Keep.cons 6 rfl (Keep.cons 16 rfl (Keep.cons 42 rfl (Keep.cons 50 rfl (Keep.cons 61 rfl Keep.nil)))))))) ?_
                  refine at_seq ?_
                  refine at_region ?_
                  refine wl_read rfl rfl rfl (yl_assign rfl rfl) ?_
                  refine wl_nil ?_
                  refine at_keep (Keep.cons 0 rfl (Keep.cons 3 rfl (Keep.cons 4 rfl (Keep.cons 5 rfl (Keep.cons 6 rfl (Keep.cons 16 rfl (Keep.cons 42 rfl (Keep.cons 50 rfl (Keep.cons 61 rfl Keep.nil))))))))) ?_
                  refine at_retH (fun _ hw => RAcc.closes hw.front1.front2.drop2.drop2.drop2) Try.func22 (res1 rfl rfl) ?_
                  have hpe : perr es e = 0 := perr0 hv hold hdup hwd
                  exact ⟨by rw [hpe], by rw [pnext_yes hpe]⟩
                ·
                  refine wt_eff rfl rfl rfl rfl (ef_buildSlice (e := 33) [e] rfl rfl (fun _ => by kernel_rfl) rfl rfl) ?_
                  rintro _ _ ⟨T15_7, rfl, rfl⟩
                  refine ⟨⟨[_, _], rfl⟩, ?_⟩
                  refine wt_eff rfl rfl rfl rfl (ef_append0 (ys := es) rfl rfl rfl (Rd.of_sl 3 rfl) Try.underlying27 info33 rfl rfl (by simp only [maxLen]; omega) (by omega)) ?_
                  rintro _ _ ⟨A1, c1, rfl, rfl⟩
                  refine ⟨⟨[_, _, _], rfl⟩, ?_⟩
                  refine wt_eff rfl rfl rfl rfl (ef_append (ys := [e]) 0 rfl rfl rfl rfl (Rd.of_sl 1 rfl) Try.underlying27 info33 rfl rfl (by simp only [List.length_singleton, maxLen]; omega) (by simp only [List.length_singleton]; omega)) ?_
                  rintro _ _ ⟨A2, c2, rfl, hH⟩
                  simp only [List.set_cons_succ, List.set_cons_zero] at hH; subst hH
                  refine ⟨⟨[_, _, _], rfl⟩, ?_⟩
                  refine wt_read rfl rfl rfl rfl (yl_nilCheck rfl rfl) ?_
                  refine wt_read rfl rfl rfl rfl (yl_fieldB rfl rfl Try.underlying45 rfl (by kernel_rfl) rfl) ?_
                  refine wt_store rfl rfl rfl (es_at2 (es_store 2 rfl rfl rfl rfl (by kernel_rfl) rfl rfl)) ⟨[_, _, _], rfl⟩ ?_
                  refine wt_nil ?_
                  refine at_keep (Keep.cons 0 rfl (Keep.cons 3 rfl (Keep.cons 5 rfl (Keep.cons 6 rfl (Keep.cons 16 rfl (Keep.cons 42 rfl (Keep.cons 50 rfl (Keep.cons 61 rfl Keep.nil)))))))) ?_
                  refine at_seq ?_
                  refine at_region ?_
                  refine wl_read rfl rfl rfl (yl_assign rfl rfl) ?_
                  refine wl_nil ?_
                  refine at_keep (Keep.cons 0 rfl (Keep.cons 3 rfl (Keep.cons 4 rfl (Keep.cons 5 rfl (Keep.cons 6 rfl (Keep.cons 16 rfl (Keep.cons 42 rfl (Keep.cons 50 rfl (Keep.cons 61 rfl Keep.nil))))))))) ?_
                  refine at_retH (fun _ hw => RAcc.closes hw.front2.drop2.drop2.drop2) Try.func22 (res1 rfl rfl) ?_
                  have hpe : perr es e = 0 := perr0 hv hold hdup hwd
                  exact ⟨by rw [hpe], by rw [pnext_yes hpe]⟩
              ·
                refine wt_eff rfl rfl rfl rfl (ef_buildSlice (e := 33) [e] rfl rfl (fun _ => by kernel_rfl) rfl rfl) ?_
                rintro _ _ ⟨T15_7, rfl, rfl⟩
                refine ⟨⟨[_, _], rfl⟩, ?_⟩
                refine wt_readE rfl rfl rfl rfl (yl_load rfl rfl Try.underlying27 rfl (CellAt.bk 1 rfl rfl)) ⟨[_, _], rfl⟩ ?_
                refine wt_eff rfl rfl rfl rfl (ef_append0 (ys := es) rfl rfl rfl (Rd.of_sl 3 rfl) Try.underlying27 info33 rfl rfl (by simp only [maxLen]; omega) (by omega)) ?_
                rintro _ _ ⟨A1, c1, rfl, rfl⟩
                refine ⟨⟨[_, _, _], rfl⟩, ?_⟩
                refine wt_eff rfl rfl rfl rfl (ef_append (ys := [e]) 0 rfl rfl rfl rfl (Rd.of_sl 1 rfl) Try.underlying27 info33 rfl rfl (by simp only [List.length_singleton, maxLen]; omega) (by simp only [List.length_singleton]; omega)) ?_
                rintro _ _ ⟨A2, c2, rfl, hH⟩
                simp only [List.set_cons_succ, List.set_cons_zero] at hH; subst hH
                refine ⟨⟨[_, _, _], rfl⟩, ?_⟩
                refine wt_read rfl rfl rfl rfl (yl_nilCheck rfl rfl) ?_
                refine wt_read rfl rfl rfl rfl (yl_fieldB rfl rfl Try.underlying45 rfl (by kernel_rfl) rfl) ?_
                refine wt_store rfl rfl rfl (es_at2 (es_store 2 rfl rfl rfl rfl (by kernel_rfl) rfl rfl)) ⟨[_, _, _], rfl⟩ ?_
                refine wt_nil ?_
                refine at_keep (Keep.cons 0 rfl (Keep.cons 3 rfl (Keep.cons 5 rfl (Keep.cons 6 rfl (Keep.cons 16 rfl (Keep.cons 42 rfl (Keep.cons 50 rfl (Keep.cons 61 rfl Keep.nil)))))))) ?_
                refine at_seq ?_
                refine at_region ?_
                refine wl_read rfl rfl rfl (yl_assign rfl rfl) ?_
                refine wl_nil ?_
                refine at_keep (Keep.cons 0 rfl (Keep.cons 3 rfl (Keep.cons 4 rfl (Keep.cons 5 rfl (Keep.cons 6 rfl (Keep.cons 16 rfl (Keep.cons 42 rfl (Keep.cons 50 rfl (Keep.cons 61 rfl Keep.nil))))))))) ?_
                refine at_retH (fun _ hw => RAcc.closes hw.front2.drop2.drop2.drop2) Try.func22 (res1 rfl rfl) ?_
                have hpe : perr es e = 0 := perr0 hv hold hdup hwd
                exact ⟨by rw [hpe], by rw [pnext_yes hpe]⟩
        · intro h11_2
          refine wl_nil ?_
          refine at_keep (Keep.cons 0 rfl (Keep.cons 3 rfl (Keep.cons 5 rfl (Keep.cons 6 rfl (Keep.cons 16 rfl (Keep.cons 42 rfl (Keep.cons 50 rfl Keep.nil))))))) ?_
          refine at_false rfl ?_
          refine at_skip ?_
          refine at_seq ?_
          refine at_seq ?_
          have hns : nst es e = stl es + e.amount := by unfold nst; rw [if_neg h11_2]
          refine at_region ?_
          refine wl_read rfl rfl rfl (yl_move rfl rfl) ?_
          refine wl_split rfl rfl rfl (yp_lss rfl rfl rfl) ?_ ?_
          · intro h13_1
            refine wl_read rfl rfl rfl (yl_move rfl rfl) ?_
            refine wl_skip rfl rfl rfl ?_
            refine wl_skip rfl rfl rfl ?_
            refine wl_read rfl rfl rfl (yl_pickT rfl rfl rfl) ?_
            refine wl_nil ?_
            refine at_keep (Keep.cons 0 rfl (Keep.cons 3 rfl (Keep.cons 5 rfl (Keep.cons 6 rfl (Keep.cons 16 rfl (Keep.cons 42 rfl (Keep.cons 50 rfl (Keep.cons 61 rfl Keep.nil)))))))) ?_
            refine at_true rfl ?_
            refine at_seq ?_
            have hwd : wide (nst es e) := by unfold wide; omega
            refine at_region ?_
            refine wl_read rfl rfl rfl (yl_assign rfl rfl) ?_
            refine wl_nil ?_
            refine at_keep (Keep.cons 0 rfl (Keep.cons 3 rfl (Keep.cons 4 rfl (Keep.cons 5 rfl (Keep.cons 6 rfl (Keep.cons 16 rfl (Keep.cons 42 rfl (Keep.cons 50 rfl (Keep.cons 61 rfl Keep.nil))))))))) ?_
            refine at_retH (fun _ hw => RAcc.closes hw.front2.front2.drop2) Try.func22 (res1 rfl rfl) ?_
            have hpe : perr es e = 2 := perr2 hv hold hdup hwd
            exact ⟨by rw [hpe], by rw [pnext_no (by rw [hpe]; decide)]⟩
          · intro h13_1
            refine wl_read rfl rfl rfl (yl_move rfl rfl) ?_
            refine wl_read rfl rfl rfl (yl_move rfl rfl) ?_
            refine wl_split rfl rfl rfl (yp_gtr rfl rfl rfl) ?_ ?_
            · intro h13_4
              refine wl_read rfl rfl rfl (yl_pickF rfl rfl rfl) ?_
              refine wl_nil ?_
              refine at_keep (Keep.cons 0 rfl (Keep.cons 3 rfl (Keep.cons 5 rfl (Keep.cons 6 rfl (Keep.cons 16 rfl (Keep.cons 42 rfl (Keep.cons 50 rfl (Keep.cons 61 rfl Keep.nil)))))))) ?_
              refine at_true rfl ?_
              refine at_seq ?_
              have hwd : wide (nst es e) := by unfold wide; omega
              refine at_region ?_
              refine wl_read rfl rfl rfl (yl_assign rfl rfl) ?_
              refine wl_nil ?_
              refine at_keep (Keep.cons 0 rfl (Keep.cons 3 rfl (Keep.cons 4 rfl (Keep.cons 5 rfl (Keep.cons 6 rfl (Keep.cons 16 rfl (Keep.cons 42 rfl (Keep.cons 50 rfl (Keep.cons 61 rfl Keep.nil))))))))) ?_
              refine at_retH (fun _ hw => RAcc.closes hw.front2.front2.drop2) Try.func22 (res1 rfl rfl) ?_
              have hpe : perr es e = 2 := perr2 hv hold hdup hwd
              exact ⟨by rw [hpe], by rw [pnext_no (by rw [hpe]; decide)]⟩
            · intro h13_4
              refine wl_read rfl rfl rfl (yl_pickF rfl rfl rfl) ?_
              refine wl_nil ?_
              refine at_keep (Keep.cons 0 rfl (Keep.cons 3 rfl (Keep.cons 5 rfl (Keep.cons 6 rfl (Keep.cons 16 rfl (Keep.cons 42 rfl (Keep.cons 50 rfl (Keep.cons 61 rfl Keep.nil)))))))) ?_
              refine at_false rfl ?_
              refine at_skip ?_
              refine at_seq ?_
              have hwd : ¬ wide (nst es e) := by unfold wide; omega
              refine at_heap (fun _ hw => hw.front2.front1.front2) ?_
              refine at_draw1 (.fl 0 (.fl 1 (.fl 2 (.fl 3 (.fl 6 (.ef2 4 (.ef2 5 (.ef 7 (.ef 8 (.fl 9 (.fl 10 (.ef 11 .nil))))) 7 (.ef 5 (.ef 8 (.fl 9 (.fl 10 (.ef 11 .nil)))))) 7 (.ef 4 (.ef 5 (.ef 8 (.fl 9 (.fl 10 (.ef 11 .nil)))))))))))) (by kernel_rfl) (by kernel_rfl) ?_
              refine wt_read rfl rfl rfl rfl (yl_move rfl rfl) ?_
              refine wt_read rfl rfl rfl rfl (yl_move rfl rfl) ?_
              refine wt_read rfl rfl rfl rfl (yl_nilCheck rfl rfl) ?_
              refine wt_read rfl rfl rfl rfl (yl_fieldB rfl rfl Try.underlying45 rfl (by kernel_rfl) rfl) ?_
              refine wt_read rfl rfl rfl rfl (yl_loadBk 0 rfl rfl rfl Try.underlying33 rfl (by kernel_rfl)) ?_
              refine wt_two ?_ ?_
              ·
                refine wt_readE rfl rfl rfl rfl (yl_load rfl rfl Try.underlying27 rfl (CellAt.bk 0 rfl rfl)) ⟨[_], rfl⟩ ?_
                refine wt_two ?_ ?_
                ·
                  refine wt_eff rfl rfl rfl rfl (ef_append0 (ys := es) rfl rfl rfl (Rd.of_sl 2 rfl) Try.underlying27 info33 rfl rfl (by simp only [maxLen]; omega) (by omega)) ?_
                  rintro _ _ ⟨A1, c1, rfl, rfl⟩
                  refine ⟨⟨[_, _], rfl⟩, ?_⟩
                  refine wt_eff rfl rfl rfl rfl (ef_buildSlice (e := 33) [e] rfl rfl (fun _ => by kernel_rfl) rfl rfl) ?_
                  rintro _ _ ⟨T15_7, rfl, rfl⟩
                  refine ⟨⟨[_, _, _], rfl⟩, ?_⟩
                  refine wt_eff rfl rfl rfl rfl (ef_append (ys := [e]) 1 rfl rfl rfl rfl (Rd.of_sl 0 rfl) Try.underlying27 info33 rfl rfl (by simp only [List.length_singleton, maxLen]; omega) (by simp only [List.length_singleton]; omega)) ?_
                  rintro _ _ ⟨A2, c2, rfl, hH⟩
                  simp only [List.set_cons_succ, List.set_cons_zero] at hH; subst hH
                  refine ⟨⟨[_, _, _], rfl⟩, ?_⟩
                  refine wt_read rfl rfl rfl rfl (yl_nilCheck rfl rfl) ?_
                  refine wt_read rfl rfl rfl rfl (yl_fieldB rfl rfl Try.underlying45 rfl (by kernel_rfl) rfl) ?_
                  refine wt_store rfl rfl rfl (es_at2 (es_store 2 rfl rfl rfl rfl (by kernel_rfl) rfl rfl)) ⟨[_, _, _], rfl⟩ ?_
                  refine wt_nil ?_
                  refine at_keep (Keep.cons 0 rfl (Keep.cons 3 rfl (Keep.cons 5 rfl (Keep.cons 6 rfl (Keep.cons 16 rfl (Keep.cons 42 rfl (Keep.cons 50 rfl (Keep.cons 61 rfl Keep.nil)))))))) ?_
                  refine at_seq ?_
                  refine at_region ?_
                  refine wl_read rfl rfl rfl (yl_assign rfl rfl) ?_
                  refine wl_nil ?_
                  refine at_keep (Keep.cons 0 rfl (Keep.cons 3 rfl (Keep.cons 4 rfl (Keep.cons 5 rfl (Keep.cons 6 rfl (Keep.cons 16 rfl (Keep.cons 42 rfl (Keep.cons 50 rfl (Keep.cons 61 rfl Keep.nil))))))))) ?_
                  refine at_retH (fun _ hw => RAcc.closes hw.front1.front2.drop2.drop2.drop2) Try.func22 (res1 rfl rfl) ?_
                  have hpe : perr es e = 0 := perr0 hv hold hdup hwd
                  exact ⟨by rw [hpe], by rw [pnext_yes hpe]⟩
                ·
                  refine wt_eff rfl rfl rfl rfl (ef_buildSlice (e := 33) [e] rfl rfl (fun _ => by kernel_rfl) rfl rfl) ?_
                  rintro _ _ ⟨T15_7, rfl, rfl⟩
                  refine ⟨⟨[_, _], rfl⟩, ?_⟩
                  refine wt_eff rfl rfl rfl rfl (ef_append0 (ys := es) rfl rfl rfl (Rd.of_sl 3 rfl) Try.underlying27 info33 rfl rfl (by simp only [maxLen]; omega) (by omega)) ?_
                  rintro _ _ ⟨A1, c1, rfl, rfl⟩
                  refine ⟨⟨[_, _, _], rfl⟩, ?_⟩
                  refine wt_eff rfl rfl rfl rfl (ef_append (ys := [e]) 0 rfl rfl rfl rfl (Rd.of_sl 1 rfl) Try.underlying27 info33 rfl rfl (by simp only [List.length_singleton, maxLen]; omega) (by simp only [List.length_singleton]; omega)) ?_
                  rintro _ _ ⟨A2, c2, rfl, hH⟩
                  simp only [List.set_cons_succ, List.set_cons_zero] at hH; subst hH
                  refine ⟨⟨[_, _, _], rfl⟩, ?_⟩
                  refine wt_read rfl rfl rfl rfl (yl_nilCheck rfl rfl) ?_
                  refine wt_read rfl rfl rfl rfl (yl_fieldB rfl rfl Try.underlying45 rfl (by kernel_rfl) rfl) ?_
                  refine wt_store rfl rfl rfl (es_at2 (es_store 2 rfl rfl rfl rfl (by kernel_rfl) rfl rfl)) ⟨[_, _, _], rfl⟩ ?_
                  refine wt_nil ?_
                  refine at_keep (Keep.cons 0 rfl (Keep.cons 3 rfl (Keep.cons 5 rfl (Keep.cons 6 rfl (Keep.cons 16 rfl (Keep.cons 42 rfl (Keep.cons 50 rfl (Keep.cons 61 rfl Keep.nil)))))))) ?_
                  refine at_seq ?_
                  refine at_region ?_
                  refine wl_read rfl rfl rfl (yl_assign rfl rfl) ?_
                  refine wl_nil ?_
                  refine at_keep (Keep.cons 0 rfl (Keep.cons 3 rfl (Keep.cons 4 rfl (Keep.cons 5 rfl (Keep.cons 6 rfl (Keep.cons 16 rfl (Keep.cons 42 rfl (Keep.cons 50 rfl (Keep.cons 61 rfl Keep.nil))))))))) ?_
                  refine at_retH (fun _ hw => RAcc.closes hw.front2.drop2.drop2.drop2) Try.func22 (res1 rfl rfl) ?_
                  have hpe : perr es e = 0 := perr0 hv hold hdup hwd
                  exact ⟨by rw [hpe], by rw [pnext_yes hpe]⟩
              ·
                refine wt_eff rfl rfl rfl rfl (ef_buildSlice (e := 33) [e] rfl rfl (fun _ => by kernel_rfl) rfl rfl) ?_
                rintro _ _ ⟨T15_7, rfl, rfl⟩
                refine ⟨⟨[_, _], rfl⟩, ?_⟩
                refine wt_readE rfl rfl rfl rfl (yl_load rfl rfl Try.underlying27 rfl (CellAt.bk 1 rfl rfl)) ⟨[_, _], rfl⟩ ?_
                refine wt_eff rfl rfl rfl rfl (ef_append0 (ys := es) rfl rfl rfl (Rd.of_sl 3 rfl) Try.underlying27 info33 rfl rfl (by simp only [maxLen]; omega) (by omega)) ?_
                rintro _ _ ⟨A1, c1, rfl, rfl⟩
                refine ⟨⟨[_, _, _], rfl⟩, ?_⟩
                refine wt_eff rfl rfl rfl rfl (ef_append (ys := [e]) 0 rfl rfl rfl rfl (Rd.of_sl 1 rfl) Try.underlying27 info33 rfl rfl (by simp only [List.length_singleton, maxLen]; omega) (by simp only [List.length_singleton]; omega)) ?_
                rintro _ _ ⟨A2, c2, rfl, hH⟩
                simp only [List.set_cons_succ, List.set_cons_zero] at hH; subst hH
                refine ⟨⟨[_, _, _], rfl⟩, ?_⟩
                refine wt_read rfl rfl rfl rfl (yl_nilCheck rfl rfl) ?_
                refine wt_read rfl rfl rfl rfl (yl_fieldB rfl rfl Try.underlying45 rfl (by kernel_rfl) rfl) ?_
                refine wt_store rfl rfl rfl (es_at2 (es_store 2 rfl rfl rfl rfl (by kernel_rfl) rfl rfl)) ⟨[_, _, _], rfl⟩ ?_
                refine wt_nil ?_
                refine at_keep (Keep.cons 0 rfl (Keep.cons 3 rfl (Keep.cons 5 rfl (Keep.cons 6 rfl (Keep.cons 16 rfl (Keep.cons 42 rfl (Keep.cons 50 rfl (Keep.cons 61 rfl Keep.nil)))))))) ?_
                refine at_seq ?_
                refine at_region ?_
                refine wl_read rfl rfl rfl (yl_assign rfl rfl) ?_
                refine wl_nil ?_
                refine at_keep (Keep.cons 0 rfl (Keep.cons 3 rfl (Keep.cons 4 rfl (Keep.cons 5 rfl (Keep.cons 6 rfl (Keep.cons 16 rfl (Keep.cons 42 rfl (Keep.cons 50 rfl (Keep.cons 61 rfl Keep.nil))))))))) ?_
                refine at_retH (fun _ hw => RAcc.closes hw.front2.drop2.drop2.drop2) Try.func22 (res1 rfl rfl) ?_
                have hpe : perr es e = 0 := perr0 hv hold hdup hwd
                exact ⟨by rw [hpe], by rw [pnext_yes hpe]⟩
  ·
    rw [decide_eq_false hv]
    refine wl_read rfl rfl rfl (yl_notF rfl rfl) ?_
    refine wl_nil ?_
    refine at_keep (Keep.cons 0 rfl (Keep.cons 1 rfl (Keep.cons 3 rfl (Keep.cons 4 rfl (Keep.cons 9 rfl Keep.nil))))) ?_
    refine at_true rfl ?_
    refine at_seq ?_
    refine at_region ?_
    refine wl_read rfl rfl rfl (yl_assign rfl rfl) ?_
    refine wl_nil ?_
    refine at_keep (Keep.cons 0 rfl (Keep.cons 1 rfl (Keep.cons 3 rfl (Keep.cons 4 rfl (Keep.cons 9 rfl Keep.nil))))) ?_
    refine at_retH (fun _ hw => RAcc.closes hw.front2.front2.drop2) Try.func22 (res1 rfl rfl) ?_
    have hpe : perr es e = 1 := perr1 hv
    exact ⟨by rw [hpe], by rw [pnext_no (by rw [hpe]; decide)]⟩
end Go.Proofs.Ytplaoddmgfcbcaa

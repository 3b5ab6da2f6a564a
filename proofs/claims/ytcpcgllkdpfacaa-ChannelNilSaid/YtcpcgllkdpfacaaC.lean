/- Walks of Repeat, Send, Fork and their references. -/
import Derived.Test.YtcpcgllkdpfacaaB
namespace Go.Proofs.Ytcpcgllkdpfacaa
open Go

theorem repeat_fn (ms : List Msg) (k : Cts) (g : Nat) (b : World) (H : List Asr) (j : Nat) (hok : Ok H ms) (hj : j < ms.length) (hm : ms.length < 500) (hk : 0 ≤ k.rep ∧ k.rep ≤ 1000000) : Fn Try.prog 21 [.pointer (some ⟨g, 0, none⟩), .int .i64 (j : Int)] b (Chn 58 g ms k :: H)
    (fun v H' => ∃ A' c', v = .int .i64 0 ∧ H' = Sl A' c' 5 (at_ ms j).bs :: Chn 58 g (ms ++ [(at_ ms j).cp A' c']) { k with rep := k.rep + 1 } :: H) := by
  have hl := hok.len
  refine Chn.fn fun A c => ?_
  refine fn_of_at (by kernel_rfl) Try.func21 rfl Try.ntmps21 rfl rfl ?_
  refine at_seq ?_
  refine at_region ?_
  refine wl_read rfl rfl rfl (yl_assign rfl rfl) ?_
  refine wl_nil ?_
  refine at_keep (Keep.cons 0 rfl (Keep.cons 1 rfl (Keep.cons 4 rfl Keep.nil))) ?_
  refine at_seq ?_
  refine at_seq ?_
  refine at_region ?_
  refine wl_read rfl rfl rfl (yl_move rfl rfl) ?_
  refine wl_read rfl rfl rfl (yl_eqPtr rfl rfl rfl (by kernel_rfl) rfl) ?_
  refine wl_nil ?_
  refine at_keep (Keep.cons 0 rfl (Keep.cons 1 rfl (Keep.cons 4 rfl (Keep.cons 8 rfl Keep.nil)))) ?_
  refine at_false rfl ?_
  refine at_skip ?_
  refine at_seq ?_
  refine at_region ?_
  refine wl_read rfl rfl rfl (yl_move rfl rfl) ?_
  refine wl_read rfl rfl rfl (yl_move rfl rfl) ?_
  refine wl_call rfl rfl rfl (en_call rfl rfl) (at_at ms g j _ _ (CellAt.bk 0 rfl rfl) (Rd.of_sl 1 rfl) ((hok.cons _).cons _) hj) ?_
  rintro _ _ ⟨A1, c1, rfl, rfl⟩
  refine wl_read rfl rfl rfl (yl_move rfl rfl) ?_
  refine wl_read rfl rfl rfl (yl_extract rfl rfl rfl) ?_
  refine wl_read rfl rfl rfl (yl_extract rfl rfl rfl) ?_
  refine wl_eff rfl rfl rfl (ef_alloc (cs := [.int .i64 0, .int .i64 0, .slice none 0 0]) (z := .agg #[.int .i64 0, .int .i64 0, .slice none 0 0]) rfl (by kernel_rfl) rfl) ?_
  rintro _ _ ⟨g5, rfl, rfl⟩
  refine wl_store rfl rfl (es_at0 (es_storeN 0 rfl rfl rfl rfl (by kernel_rfl) rfl rfl)) ?_
  refine wl_read rfl rfl rfl (yl_assign rfl rfl) ?_
  refine wl_nil ?_
  refine at_keep (Keep.cons 0 rfl (Keep.cons 1 rfl (Keep.cons 4 rfl (Keep.cons 5 rfl (Keep.cons 6 rfl (Keep.cons 8 rfl Keep.nil)))))) ?_
  refine at_seq ?_
  refine at_seq ?_
  refine at_region ?_
  refine wl_read rfl rfl rfl (yl_move rfl rfl) ?_
  refine wl_read rfl rfl rfl (yl_notT rfl rfl) ?_
  refine wl_nil ?_
  refine at_keep (Keep.cons 0 rfl (Keep.cons 1 rfl (Keep.cons 4 rfl (Keep.cons 5 rfl (Keep.cons 6 rfl (Keep.cons 8 rfl (Keep.cons 16 rfl Keep.nil))))))) ?_
  refine at_false rfl ?_
  refine at_skip ?_
  refine at_seq ?_
  refine at_seq ?_
  refine at_region ?_
  refine wl_read rfl rfl rfl (yl_move rfl rfl) ?_
  refine wl_read rfl rfl rfl (yl_nilCheck rfl rfl) ?_
  refine wl_read rfl rfl rfl (yl_fieldB rfl rfl Try.underlying58 rfl (by kernel_rfl) rfl) ?_
  refine wl_read rfl rfl rfl (yl_load rfl rfl Try.underlying40 rfl (CellAt.bk 2 rfl rfl)) ?_
  refine wl_read rfl rfl rfl (yl_len rfl rfl Try.underlying40) ?_
  refine wl_read rfl rfl rfl ((yp_geq rfl rfl rfl).2 (by omega)) ?_
  refine wl_nil ?_
  refine at_keep (Keep.cons 0 rfl (Keep.cons 1 rfl (Keep.cons 4 rfl (Keep.cons 5 rfl (Keep.cons 6 rfl (Keep.cons 8 rfl (Keep.cons 16 rfl (Keep.cons 22 rfl Keep.nil)))))))) ?_
  refine at_false rfl ?_
  refine at_skip ?_
  refine at_seq ?_
  refine at_heap (fun _ hw => hw.front2.front3) ?_
  refine at_draw2 (.fl 0 (.fl 1 (.fl 2 (.fl 3 (.fl 5 (.ef2 4 (.ef 6 (.ef 7 (.fl 8 (.fl 9 (.ef 10 .nil))))) 6 (.ef 4 (.ef 7 (.fl 8 (.fl 9 (.ef 10 .nil))))))))))) (by kernel_rfl) (by kernel_rfl) ?_
  refine wt_read rfl rfl rfl rfl (yl_move rfl rfl) ?_
  refine wt_read rfl rfl rfl rfl (yl_move rfl rfl) ?_
  refine wt_read rfl rfl rfl rfl (yl_nilCheck rfl rfl) ?_
  refine wt_read rfl rfl rfl rfl (yl_fieldB rfl rfl Try.underlying58 rfl (by kernel_rfl) rfl) ?_
  refine wt_read rfl rfl rfl rfl (yl_loadBk 0 rfl rfl rfl Try.underlying33 rfl (by kernel_rfl)) ?_
  refine wt_two ?_ ?_
  ·
    refine wt_readE rfl rfl rfl rfl (yl_load rfl rfl Try.underlying40 rfl (CellAt.bk 1 rfl rfl)) ⟨[_, _], rfl⟩ ?_
    refine wt_eff rfl rfl rfl rfl (ef_buildSlice (e := 33) [(at_ ms j).cp A1 c1] rfl rfl (fun _ => by kernel_rfl) rfl rfl) ?_
    rintro _ _ ⟨T8_6, rfl, rfl⟩
    refine ⟨⟨[_, _, _], rfl⟩, ?_⟩
    refine wt_eff rfl rfl rfl rfl (ef_append (ys := [(at_ ms j).cp A1 c1]) 1 rfl rfl rfl rfl (Rd.of_sl 0 rfl) Try.underlying40 info33 rfl rfl (by simp only [List.length_singleton, maxLen]; omega) (by simp only [List.length_singleton]; omega)) ?_
    rintro _ _ ⟨A2, c2, rfl, hH⟩
    simp only [List.set_cons_succ, List.set_cons_zero] at hH; subst hH
    refine ⟨⟨[_, _, _], rfl⟩, ?_⟩
    refine wt_read rfl rfl rfl rfl (yl_nilCheck rfl rfl) ?_
    refine wt_read rfl rfl rfl rfl (yl_fieldB rfl rfl Try.underlying58 rfl (by kernel_rfl) rfl) ?_
    refine wt_store rfl rfl rfl (es_at2 (es_store 2 rfl rfl rfl rfl (by kernel_rfl) rfl rfl)) ⟨[_, _, _], rfl⟩ ?_
    refine wt_nil ?_
    refine at_keep (Keep.cons 0 rfl (Keep.cons 1 rfl (Keep.cons 4 rfl (Keep.cons 5 rfl (Keep.cons 6 rfl (Keep.cons 8 rfl (Keep.cons 16 rfl (Keep.cons 22 rfl Keep.nil)))))))) ?_
    refine at_seq ?_
    refine at_region ?_
    refine wl_read rfl rfl rfl (yl_move rfl rfl) ?_
    refine wl_read rfl rfl rfl (yl_nilCheck rfl rfl) ?_
    refine wl_read rfl rfl rfl (yl_fieldB rfl rfl Try.underlying58 rfl (by kernel_rfl) rfl) ?_
    refine wl_read rfl rfl rfl (yl_load rfl rfl Try.underlying3 rfl (CellAt.bk 2 rfl rfl)) ?_
    refine wl_read rfl rfl rfl (yl_add rfl rfl rfl (w64 (by omega) (by omega))) ?_
    refine wl_read rfl rfl rfl (yl_nilCheck rfl rfl) ?_
    refine wl_read rfl rfl rfl (yl_fieldB rfl rfl Try.underlying58 rfl (by kernel_rfl) rfl) ?_
    refine wl_store rfl rfl (es_at2 (es_store 2 rfl rfl rfl rfl (by kernel_rfl) rfl rfl)) ?_
    refine wl_nil ?_
    refine at_keep (Keep.cons 0 rfl (Keep.cons 1 rfl (Keep.cons 4 rfl (Keep.cons 5 rfl (Keep.cons 6 rfl (Keep.cons 8 rfl (Keep.cons 16 rfl (Keep.cons 22 rfl Keep.nil)))))))) ?_
    refine at_seq ?_
    refine at_region ?_
    refine wl_read rfl rfl rfl (yl_assign rfl rfl) ?_
    refine wl_nil ?_
    refine at_keep (Keep.cons 0 rfl (Keep.cons 1 rfl (Keep.cons 4 rfl (Keep.cons 5 rfl (Keep.cons 6 rfl (Keep.cons 8 rfl (Keep.cons 16 rfl (Keep.cons 22 rfl Keep.nil)))))))) ?_
    refine at_retH (fun _ hw => (Chn.closes (ms := ms ++ [(at_ ms j).cp A1 c1]) (k := { k with rep := k.rep + 1 }) hw.front4.front2.front3.drop3.drop3).front1) Try.func21 (res1 rfl rfl) ?_
    exact ⟨A1, c1, rfl, rfl⟩
  ·
    refine wt_eff rfl rfl rfl rfl (ef_buildSlice (e := 33) [(at_ ms j).cp A1 c1] rfl rfl (fun _ => by kernel_rfl) rfl rfl) ?_
    rintro _ _ ⟨T8_6, rfl, rfl⟩
    refine ⟨⟨[_, _, _], rfl⟩, ?_⟩
    refine wt_readE rfl rfl rfl rfl (yl_load rfl rfl Try.underlying40 rfl (CellAt.bk 2 rfl rfl)) ⟨[_, _, _], rfl⟩ ?_
    refine wt_eff rfl rfl rfl rfl (ef_append (ys := [(at_ ms j).cp A1 c1]) 1 rfl rfl rfl rfl (Rd.of_sl 0 rfl) Try.underlying40 info33 rfl rfl (by simp only [List.length_singleton, maxLen]; omega) (by simp only [List.length_singleton]; omega)) ?_
    rintro _ _ ⟨A2, c2, rfl, hH⟩
    simp only [List.set_cons_succ, List.set_cons_zero] at hH; subst hH
    refine ⟨⟨[_, _, _], rfl⟩, ?_⟩
    refine wt_read rfl rfl rfl rfl (yl_nilCheck rfl rfl) ?_
    refine wt_read rfl rfl rfl rfl (yl_fieldB rfl rfl Try.underlying58 rfl (by kernel_rfl) rfl) ?_
    refine wt_store rfl rfl rfl (es_at2 (es_store 2 rfl rfl rfl rfl (by kernel_rfl) rfl rfl)) ⟨[_, _, _], rfl⟩ ?_
    refine wt_nil ?_
    refine at_keep (Keep.cons 0 rfl (Keep.cons 1 rfl (Keep.cons 4 rfl (Keep.cons 5 rfl (Keep.cons 6 rfl (Keep.cons 8 rfl (Keep.cons 16 rfl (Keep.cons 22 rfl Keep.nil)))))))) ?_
    refine at_seq ?_
    refine at_region ?_
    refine wl_read rfl rfl rfl (yl_move rfl rfl) ?_
    refine wl_read rfl rfl rfl (yl_nilCheck rfl rfl) ?_
    refine wl_read rfl rfl rfl (yl_fieldB rfl rfl Try.underlying58 rfl (by kernel_rfl) rfl) ?_
    refine wl_read rfl rfl rfl (yl_load rfl rfl Try.underlying3 rfl (CellAt.bk 2 rfl rfl)) ?_
    refine wl_read rfl rfl rfl (yl_add rfl rfl rfl (w64 (by omega) (by omega))) ?_
    refine wl_read rfl rfl rfl (yl_nilCheck rfl rfl) ?_
    refine wl_read rfl rfl rfl (yl_fieldB rfl rfl Try.underlying58 rfl (by kernel_rfl) rfl) ?_
    refine wl_store rfl rfl (es_at2 (es_store 2 rfl rfl rfl rfl (by kernel_rfl) rfl rfl)) ?_
    refine wl_nil ?_
    refine at_keep (Keep.cons 0 rfl (Keep.cons 1 rfl (Keep.cons 4 rfl (Keep.cons 5 rfl (Keep.cons 6 rfl (Keep.cons 8 rfl (Keep.cons 16 rfl (Keep.cons 22 rfl Keep.nil)))))))) ?_
    refine at_seq ?_
    refine at_region ?_
    refine wl_read rfl rfl rfl (yl_assign rfl rfl) ?_
    refine wl_nil ?_
    refine at_keep (Keep.cons 0 rfl (Keep.cons 1 rfl (Keep.cons 4 rfl (Keep.cons 5 rfl (Keep.cons 6 rfl (Keep.cons 8 rfl (Keep.cons 16 rfl (Keep.cons 22 rfl Keep.nil)))))))) ?_
    refine at_retH (fun _ hw => (Chn.closes (ms := ms ++ [(at_ ms j).cp A1 c1]) (k := { k with rep := k.rep + 1 }) hw.front4.front2.front3.drop3.drop3).front1) Try.func21 (res1 rfl rfl) ?_
    exact ⟨A1, c1, rfl, rfl⟩
theorem repeat_full (ms : List Msg) (k : Cts) (g : Nat) (b : World) (H : List Asr) (j : Nat) (hok : Ok H ms) (hj : j < ms.length) (hm : 500 ≤ ms.length) : Fn Try.prog 21 [.pointer (some ⟨g, 0, none⟩), .int .i64 (j : Int)] b (Chn 58 g ms k :: H) (fun v H' => v = .int .i64 7 ∧ Chn 58 g ms k :: H = H') := by
  refine Chn.fn fun A c => ?_
  refine fn_of_at (by kernel_rfl) Try.func21 rfl Try.ntmps21 rfl rfl ?_
  refine at_seq ?_
  refine at_region ?_
  refine wl_read rfl rfl rfl (yl_assign rfl rfl) ?_
  refine wl_nil ?_
  refine at_keep (Keep.cons 0 rfl (Keep.cons 1 rfl (Keep.cons 4 rfl Keep.nil))) ?_
  refine at_seq ?_
  refine at_seq ?_
  refine at_region ?_
  refine wl_read rfl rfl rfl (yl_move rfl rfl) ?_
  refine wl_read rfl rfl rfl (yl_eqPtr rfl rfl rfl (by kernel_rfl) rfl) ?_
  refine wl_nil ?_
  refine at_keep (Keep.cons 0 rfl (Keep.cons 1 rfl (Keep.cons 4 rfl (Keep.cons 8 rfl Keep.nil)))) ?_
  refine at_false rfl ?_
  refine at_skip ?_
  refine at_seq ?_
  refine at_region ?_
  refine wl_read rfl rfl rfl (yl_move rfl rfl) ?_
  refine wl_read rfl rfl rfl (yl_move rfl rfl) ?_
  refine wl_call rfl rfl rfl (en_call rfl rfl) (at_at ms g j _ _ (CellAt.bk 0 rfl rfl) (Rd.of_sl 1 rfl) ((hok.cons _).cons _) hj) ?_
  rintro _ _ ⟨A1, c1, rfl, rfl⟩
  refine wl_read rfl rfl rfl (yl_move rfl rfl) ?_
  refine wl_read rfl rfl rfl (yl_extract rfl rfl rfl) ?_
  refine wl_read rfl rfl rfl (yl_extract rfl rfl rfl) ?_
  refine wl_eff rfl rfl rfl (ef_alloc (cs := [.int .i64 0, .int .i64 0, .slice none 0 0]) (z := .agg #[.int .i64 0, .int .i64 0, .slice none 0 0]) rfl (by kernel_rfl) rfl) ?_
  rintro _ _ ⟨g5, rfl, rfl⟩
  refine wl_store rfl rfl (es_at0 (es_storeN 0 rfl rfl rfl rfl (by kernel_rfl) rfl rfl)) ?_
  refine wl_read rfl rfl rfl (yl_assign rfl rfl) ?_
  refine wl_nil ?_
  refine at_keep (Keep.cons 0 rfl (Keep.cons 1 rfl (Keep.cons 4 rfl (Keep.cons 5 rfl (Keep.cons 6 rfl (Keep.cons 8 rfl Keep.nil)))))) ?_
  refine at_seq ?_
  refine at_seq ?_
  refine at_region ?_
  refine wl_read rfl rfl rfl (yl_move rfl rfl) ?_
  refine wl_read rfl rfl rfl (yl_notT rfl rfl) ?_
  refine wl_nil ?_
  refine at_keep (Keep.cons 0 rfl (Keep.cons 1 rfl (Keep.cons 4 rfl (Keep.cons 5 rfl (Keep.cons 6 rfl (Keep.cons 8 rfl (Keep.cons 16 rfl Keep.nil))))))) ?_
  refine at_false rfl ?_
  refine at_skip ?_
  refine at_seq ?_
  refine at_seq ?_
  refine at_region ?_
  refine wl_read rfl rfl rfl (yl_move rfl rfl) ?_
  refine wl_read rfl rfl rfl (yl_nilCheck rfl rfl) ?_
  refine wl_read rfl rfl rfl (yl_fieldB rfl rfl Try.underlying58 rfl (by kernel_rfl) rfl) ?_
  refine wl_read rfl rfl rfl (yl_load rfl rfl Try.underlying40 rfl (CellAt.bk 2 rfl rfl)) ?_
  refine wl_read rfl rfl rfl (yl_len rfl rfl Try.underlying40) ?_
  refine wl_read rfl rfl rfl ((yp_geq rfl rfl rfl).1 (by omega)) ?_
  refine wl_nil ?_
  refine at_keep (Keep.cons 0 rfl (Keep.cons 1 rfl (Keep.cons 4 rfl (Keep.cons 5 rfl (Keep.cons 6 rfl (Keep.cons 8 rfl (Keep.cons 16 rfl (Keep.cons 22 rfl Keep.nil)))))))) ?_
  refine at_true rfl ?_
  refine at_seq ?_
  refine at_region ?_
  refine wl_read rfl rfl rfl (yl_assign rfl rfl) ?_
  refine wl_nil ?_
  refine at_keep (Keep.cons 0 rfl (Keep.cons 1 rfl (Keep.cons 4 rfl (Keep.cons 5 rfl (Keep.cons 6 rfl (Keep.cons 8 rfl (Keep.cons 16 rfl (Keep.cons 22 rfl Keep.nil)))))))) ?_
  refine at_retH (fun _ hw => (Chn.closes  hw.front3.front3.drop2.drop2)) Try.func21 (res1 rfl rfl) ?_
  exact ⟨rfl, rfl⟩
theorem repeat_out (ms : List Msg) (k : Cts) (g : Nat) (b : World) (H : List Asr) (i : Int) (hi : ¬ (0 ≤ i ∧ i < ms.length)) : Fn Try.prog 21 [.pointer (some ⟨g, 0, none⟩), .int .i64 i] b (Chn 58 g ms k :: H) (fun v H' => v = .int .i64 9 ∧ Chn 58 g ms k :: H = H') := by
  refine Chn.fn fun A c => ?_
  refine fn_of_at (by kernel_rfl) Try.func21 rfl Try.ntmps21 rfl rfl ?_
  refine at_seq ?_
  refine at_region ?_
  refine wl_read rfl rfl rfl (yl_assign rfl rfl) ?_
  refine wl_nil ?_
  refine at_keep (Keep.cons 0 rfl (Keep.cons 1 rfl (Keep.cons 4 rfl Keep.nil))) ?_
  refine at_seq ?_
  refine at_seq ?_
  refine at_region ?_
  refine wl_read rfl rfl rfl (yl_move rfl rfl) ?_
  refine wl_read rfl rfl rfl (yl_eqPtr rfl rfl rfl (by kernel_rfl) rfl) ?_
  refine wl_nil ?_
  refine at_keep (Keep.cons 0 rfl (Keep.cons 1 rfl (Keep.cons 4 rfl (Keep.cons 8 rfl Keep.nil)))) ?_
  refine at_false rfl ?_
  refine at_skip ?_
  refine at_seq ?_
  refine at_region ?_
  refine wl_read rfl rfl rfl (yl_move rfl rfl) ?_
  refine wl_read rfl rfl rfl (yl_move rfl rfl) ?_
  refine wl_call rfl rfl rfl (en_call rfl rfl) (at_out g _ _ i (CellAt.bk 0 rfl rfl) hi) ?_
  rintro _ _ ⟨rfl, rfl⟩
  refine wl_read rfl rfl rfl (yl_move rfl rfl) ?_
  refine wl_read rfl rfl rfl (yl_extract rfl rfl rfl) ?_
  refine wl_read rfl rfl rfl (yl_extract rfl rfl rfl) ?_
  refine wl_eff rfl rfl rfl (ef_alloc (cs := [.int .i64 0, .int .i64 0, .slice none 0 0]) (z := .agg #[.int .i64 0, .int .i64 0, .slice none 0 0]) rfl (by kernel_rfl) rfl) ?_
  rintro _ _ ⟨g5, rfl, rfl⟩
  refine wl_store rfl rfl (es_at0 (es_storeN 0 rfl rfl rfl rfl (by kernel_rfl) rfl rfl)) ?_
  refine wl_read rfl rfl rfl (yl_assign rfl rfl) ?_
  refine wl_nil ?_
  refine at_keep (Keep.cons 0 rfl (Keep.cons 1 rfl (Keep.cons 4 rfl (Keep.cons 5 rfl (Keep.cons 6 rfl (Keep.cons 8 rfl Keep.nil)))))) ?_
  refine at_seq ?_
  refine at_seq ?_
  refine at_region ?_
  refine wl_read rfl rfl rfl (yl_move rfl rfl) ?_
  refine wl_read rfl rfl rfl (yl_notF rfl rfl) ?_
  refine wl_nil ?_
  refine at_keep (Keep.cons 0 rfl (Keep.cons 1 rfl (Keep.cons 4 rfl (Keep.cons 5 rfl (Keep.cons 6 rfl (Keep.cons 8 rfl (Keep.cons 16 rfl Keep.nil))))))) ?_
  refine at_true rfl ?_
  refine at_seq ?_
  refine at_region ?_
  refine wl_read rfl rfl rfl (yl_assign rfl rfl) ?_
  refine wl_nil ?_
  refine at_keep (Keep.cons 0 rfl (Keep.cons 1 rfl (Keep.cons 4 rfl (Keep.cons 5 rfl (Keep.cons 6 rfl (Keep.cons 8 rfl (Keep.cons 16 rfl Keep.nil))))))) ?_
  refine at_retH (fun _ hw => (Chn.closes  hw.front2.front2.drop2)) Try.func21 (res1 rfl rfl) ?_
  exact ⟨rfl, rfl⟩
theorem rrepeat_fn (ms : List Msg) (k : Cts) (g : Nat) (b : World) (H : List Asr) (j : Nat) (hok : Ok H ms) (hj : j < ms.length) (hm : ms.length < 500) (hk : 0 ≤ k.rep ∧ k.rep ≤ 1000000) : Fn Try.prog 33 [.pointer (some ⟨g, 0, none⟩), .int .i64 (j : Int)] b (Chn 42 g ms k :: H)
    (fun v H' => ∃ A' c', v = .int .i64 0 ∧ H' = Sl A' c' 5 (at_ ms j).bs :: Chn 42 g (ms ++ [(at_ ms j).cp A' c']) { k with rep := k.rep + 1 } :: H) := by
  have hl := hok.len
  refine Chn.fn fun A c => ?_
  refine fn_of_at (by kernel_rfl) Try.func33 rfl Try.ntmps33 rfl rfl ?_
  refine at_seq ?_
  refine at_region ?_
  refine wl_read rfl rfl rfl (yl_assign rfl rfl) ?_
  refine wl_nil ?_
  refine at_keep (Keep.cons 0 rfl (Keep.cons 1 rfl (Keep.cons 4 rfl Keep.nil))) ?_
  refine at_seq ?_
  refine at_region ?_
  refine wl_read rfl rfl rfl (yl_move rfl rfl) ?_
  refine wl_read rfl rfl rfl (yl_move rfl rfl) ?_
  refine wl_call rfl rfl rfl (en_call rfl rfl) (rat_at ms g j _ _ (CellAt.bk 0 rfl rfl) (Rd.of_sl 1 rfl) ((hok.cons _).cons _) hj) ?_
  rintro _ _ ⟨A1, c1, rfl, rfl⟩
  refine wl_read rfl rfl rfl (yl_move rfl rfl) ?_
  refine wl_read rfl rfl rfl (yl_extract rfl rfl rfl) ?_
  refine wl_read rfl rfl rfl (yl_extract rfl rfl rfl) ?_
  refine wl_eff rfl rfl rfl (ef_alloc (cs := [.int .i64 0, .int .i64 0, .slice none 0 0]) (z := .agg #[.int .i64 0, .int .i64 0, .slice none 0 0]) rfl (by kernel_rfl) rfl) ?_
  rintro _ _ ⟨g5, rfl, rfl⟩
  refine wl_store rfl rfl (es_at0 (es_storeN 0 rfl rfl rfl rfl (by kernel_rfl) rfl rfl)) ?_
  refine wl_read rfl rfl rfl (yl_assign rfl rfl) ?_
  refine wl_nil ?_
  refine at_keep (Keep.cons 0 rfl (Keep.cons 1 rfl (Keep.cons 4 rfl (Keep.cons 5 rfl (Keep.cons 6 rfl Keep.nil))))) ?_
  refine at_seq ?_
  refine at_seq ?_
  refine at_region ?_
  refine wl_read rfl rfl rfl (yl_move rfl rfl) ?_
  refine wl_read rfl rfl rfl (yl_notT rfl rfl) ?_
  refine wl_nil ?_
  refine at_keep (Keep.cons 0 rfl (Keep.cons 1 rfl (Keep.cons 4 rfl (Keep.cons 5 rfl (Keep.cons 6 rfl (Keep.cons 14 rfl Keep.nil)))))) ?_
  refine at_false rfl ?_
  refine at_skip ?_
  refine at_seq ?_
  refine at_seq ?_
  refine at_region ?_
  refine wl_read rfl rfl rfl (yl_move rfl rfl) ?_
  refine wl_read rfl rfl rfl (yl_nilCheck rfl rfl) ?_
  refine wl_read rfl rfl rfl (yl_fieldB rfl rfl Try.underlying42 rfl (by kernel_rfl) rfl) ?_
  refine wl_read rfl rfl rfl (yl_load rfl rfl Try.underlying40 rfl (CellAt.bk 2 rfl rfl)) ?_
  refine wl_read rfl rfl rfl (yl_len rfl rfl Try.underlying40) ?_
  refine wl_read rfl rfl rfl ((yp_geq rfl rfl rfl).2 (by omega)) ?_
  refine wl_nil ?_
  refine at_keep (Keep.cons 0 rfl (Keep.cons 1 rfl (Keep.cons 4 rfl (Keep.cons 5 rfl (Keep.cons 6 rfl (Keep.cons 14 rfl (Keep.cons 20 rfl Keep.nil))))))) ?_
  refine at_false rfl ?_
  refine at_skip ?_
  refine at_seq ?_
  refine at_heap (fun _ hw => hw.front3.front3) ?_
  refine at_draw1 (.fl 0 (.fl 1 (.fl 2 (.fl 3 (.fl 6 (.ef2 4 (.ef2 5 (.ef 7 (.ef 8 (.fl 9 (.fl 10 (.ef 11 .nil))))) 7 (.ef 5 (.ef 8 (.fl 9 (.fl 10 (.ef 11 .nil)))))) 7 (.ef 4 (.ef 5 (.ef 8 (.fl 9 (.fl 10 (.ef 11 .nil)))))))))))) (by kernel_rfl) (by kernel_rfl) ?_
  refine wt_read rfl rfl rfl rfl (yl_move rfl rfl) ?_
  refine wt_read rfl rfl rfl rfl (yl_move rfl rfl) ?_
  refine wt_read rfl rfl rfl rfl (yl_nilCheck rfl rfl) ?_
  refine wt_read rfl rfl rfl rfl (yl_fieldB rfl rfl Try.underlying42 rfl (by kernel_rfl) rfl) ?_
  refine wt_read rfl rfl rfl rfl (yl_loadBk 1 rfl rfl rfl Try.underlying33 rfl (by kernel_rfl)) ?_
  refine wt_two ?_ ?_
  ·
    refine wt_readE rfl rfl rfl rfl (yl_load rfl rfl Try.underlying40 rfl (CellAt.bk 0 rfl rfl)) ⟨[_], rfl⟩ ?_
    refine wt_two ?_ ?_
    ·
      refine wt_eff rfl rfl rfl rfl (ef_append0 (ys := ms) rfl rfl rfl (Rd.of_sl 1 rfl) Try.underlying40 info33 rfl rfl (by simp only [maxLen]; omega) (by omega)) ?_
      rintro _ _ ⟨A3, c3, rfl, rfl⟩
      refine ⟨⟨[_, _], rfl⟩, ?_⟩
      refine wt_eff rfl rfl rfl rfl (ef_buildSlice (e := 33) [(at_ ms j).cp A1 c1] rfl rfl (fun _ => by kernel_rfl) rfl rfl) ?_
      rintro _ _ ⟨T6_7, rfl, rfl⟩
      refine ⟨⟨[_, _, _], rfl⟩, ?_⟩
      refine wt_eff rfl rfl rfl rfl (ef_append (ys := [(at_ ms j).cp A1 c1]) 1 rfl rfl rfl rfl (Rd.of_sl 0 rfl) Try.underlying40 info33 rfl rfl (by simp only [List.length_singleton, maxLen]; omega) (by simp only [List.length_singleton]; omega)) ?_
      rintro _ _ ⟨A2, c2, rfl, hH⟩
      simp only [List.set_cons_succ, List.set_cons_zero] at hH; subst hH
      refine ⟨⟨[_, _, _], rfl⟩, ?_⟩
      refine wt_read rfl rfl rfl rfl (yl_nilCheck rfl rfl) ?_
      refine wt_read rfl rfl rfl rfl (yl_fieldB rfl rfl Try.underlying42 rfl (by kernel_rfl) rfl) ?_
      refine wt_store rfl rfl rfl (es_at2 (es_store 2 rfl rfl rfl rfl (by kernel_rfl) rfl rfl)) ⟨[_, _, _], rfl⟩ ?_
      refine wt_nil ?_
      refine at_keep (Keep.cons 0 rfl (Keep.cons 1 rfl (Keep.cons 4 rfl (Keep.cons 5 rfl (Keep.cons 6 rfl (Keep.cons 14 rfl (Keep.cons 20 rfl Keep.nil))))))) ?_
      refine at_seq ?_
      refine at_region ?_
      refine wl_read rfl rfl rfl (yl_move rfl rfl) ?_
      refine wl_read rfl rfl rfl (yl_nilCheck rfl rfl) ?_
      refine wl_read rfl rfl rfl (yl_fieldB rfl rfl Try.underlying42 rfl (by kernel_rfl) rfl) ?_
      refine wl_read rfl rfl rfl (yl_load rfl rfl Try.underlying3 rfl (CellAt.bk 2 rfl rfl)) ?_
      refine wl_read rfl rfl rfl (yl_add rfl rfl rfl (w64 (by omega) (by omega))) ?_
      refine wl_read rfl rfl rfl (yl_nilCheck rfl rfl) ?_
      refine wl_read rfl rfl rfl (yl_fieldB rfl rfl Try.underlying42 rfl (by kernel_rfl) rfl) ?_
      refine wl_store rfl rfl (es_at2 (es_store 2 rfl rfl rfl rfl (by kernel_rfl) rfl rfl)) ?_
      refine wl_nil ?_
      refine at_keep (Keep.cons 0 rfl (Keep.cons 1 rfl (Keep.cons 4 rfl (Keep.cons 5 rfl (Keep.cons 6 rfl (Keep.cons 14 rfl (Keep.cons 20 rfl Keep.nil))))))) ?_
      refine at_seq ?_
      refine at_region ?_
      refine wl_read rfl rfl rfl (yl_assign rfl rfl) ?_
      refine wl_nil ?_
      refine at_keep (Keep.cons 0 rfl (Keep.cons 1 rfl (Keep.cons 4 rfl (Keep.cons 5 rfl (Keep.cons 6 rfl (Keep.cons 14 rfl (Keep.cons 20 rfl Keep.nil))))))) ?_
      refine at_retH (fun _ hw => (Chn.closes (ms := ms ++ [(at_ ms j).cp A1 c1]) (k := { k with rep := k.rep + 1 }) hw.front5.front2.front3.drop3.drop3.drop3).front1) Try.func33 (res1 rfl rfl) ?_
      exact ⟨A1, c1, rfl, rfl⟩
    ·
      refine wt_eff rfl rfl rfl rfl (ef_buildSlice (e := 33) [(at_ ms j).cp A1 c1] rfl rfl (fun _ => by kernel_rfl) rfl rfl) ?_
      rintro _ _ ⟨T6_7, rfl, rfl⟩
      refine ⟨⟨[_, _], rfl⟩, ?_⟩
      refine wt_eff rfl rfl rfl rfl (ef_append0 (ys := ms) rfl rfl rfl (Rd.of_sl 2 rfl) Try.underlying40 info33 rfl rfl (by simp only [maxLen]; omega) (by omega)) ?_
      rintro _ _ ⟨A3, c3, rfl, rfl⟩
      refine ⟨⟨[_, _, _], rfl⟩, ?_⟩
      refine wt_eff rfl rfl rfl rfl (ef_append (ys := [(at_ ms j).cp A1 c1]) 0 rfl rfl rfl rfl (Rd.of_sl 1 rfl) Try.underlying40 info33 rfl rfl (by simp only [List.length_singleton, maxLen]; omega) (by simp only [List.length_singleton]; omega)) ?_
      rintro _ _ ⟨A2, c2, rfl, hH⟩
      simp only [List.set_cons_succ, List.set_cons_zero] at hH; subst hH
      refine ⟨⟨[_, _, _], rfl⟩, ?_⟩
      refine wt_read rfl rfl rfl rfl (yl_nilCheck rfl rfl) ?_
      refine wt_read rfl rfl rfl rfl (yl_fieldB rfl rfl Try.underlying42 rfl (by kernel_rfl) rfl) ?_
      refine wt_store rfl rfl rfl (es_at2 (es_store 2 rfl rfl rfl rfl (by kernel_rfl) rfl rfl)) ⟨[_, _, _], rfl⟩ ?_
      refine wt_nil ?_
      refine at_keep (Keep.cons 0 rfl (Keep.cons 1 rfl (Keep.cons 4 rfl (Keep.cons 5 rfl (Keep.cons 6 rfl (Keep.cons 14 rfl (Keep.cons 20 rfl Keep.nil))))))) ?_
      refine at_seq ?_
      refine at_region ?_
      refine wl_read rfl rfl rfl (yl_move rfl rfl) ?_
      refine wl_read rfl rfl rfl (yl_nilCheck rfl rfl) ?_
      refine wl_read rfl rfl rfl (yl_fieldB rfl rfl Try.underlying42 rfl (by kernel_rfl) rfl) ?_
      refine wl_read rfl rfl rfl (yl_load rfl rfl Try.underlying3 rfl (CellAt.bk 2 rfl rfl)) ?_
      refine wl_read rfl rfl rfl (yl_add rfl rfl rfl (w64 (by omega) (by omega))) ?_
      refine wl_read rfl rfl rfl (yl_nilCheck rfl rfl) ?_
      refine wl_read rfl rfl rfl (yl_fieldB rfl rfl Try.underlying42 rfl (by kernel_rfl) rfl) ?_
      refine wl_store rfl rfl (es_at2 (es_store 2 rfl rfl rfl rfl (by kernel_rfl) rfl rfl)) ?_
      refine wl_nil ?_
      refine at_keep (Keep.cons 0 rfl (Keep.cons 1 rfl (Keep.cons 4 rfl (Keep.cons 5 rfl (Keep.cons 6 rfl (Keep.cons 14 rfl (Keep.cons 20 rfl Keep.nil))))))) ?_
      refine at_seq ?_
      refine at_region ?_
      refine wl_read rfl rfl rfl (yl_assign rfl rfl) ?_
      refine wl_nil ?_
      refine at_keep (Keep.cons 0 rfl (Keep.cons 1 rfl (Keep.cons 4 rfl (Keep.cons 5 rfl (Keep.cons 6 rfl (Keep.cons 14 rfl (Keep.cons 20 rfl Keep.nil))))))) ?_
      refine at_retH (fun _ hw => (Chn.closes (ms := ms ++ [(at_ ms j).cp A1 c1]) (k := { k with rep := k.rep + 1 }) hw.front5.front1.front3.drop3.drop3.drop3).front1) Try.func33 (res1 rfl rfl) ?_
      exact ⟨A1, c1, rfl, rfl⟩
  ·
    refine wt_eff rfl rfl rfl rfl (ef_buildSlice (e := 33) [(at_ ms j).cp A1 c1] rfl rfl (fun _ => by kernel_rfl) rfl rfl) ?_
    rintro _ _ ⟨T6_7, rfl, rfl⟩
    refine ⟨⟨[_, _], rfl⟩, ?_⟩
    refine wt_readE rfl rfl rfl rfl (yl_load rfl rfl Try.underlying40 rfl (CellAt.bk 1 rfl rfl)) ⟨[_, _], rfl⟩ ?_
    refine wt_eff rfl rfl rfl rfl (ef_append0 (ys := ms) rfl rfl rfl (Rd.of_sl 2 rfl) Try.underlying40 info33 rfl rfl (by simp only [maxLen]; omega) (by omega)) ?_
    rintro _ _ ⟨A3, c3, rfl, rfl⟩
    refine ⟨⟨[_, _, _], rfl⟩, ?_⟩
    refine wt_eff rfl rfl rfl rfl (ef_append (ys := [(at_ ms j).cp A1 c1]) 0 rfl rfl rfl rfl (Rd.of_sl 1 rfl) Try.underlying40 info33 rfl rfl (by simp only [List.length_singleton, maxLen]; omega) (by simp only [List.length_singleton]; omega)) ?_
    rintro _ _ ⟨A2, c2, rfl, hH⟩
    simp only [List.set_cons_succ, List.set_cons_zero] at hH; subst hH
    refine ⟨⟨[_, _, _], rfl⟩, ?_⟩
    refine wt_read rfl rfl rfl rfl (yl_nilCheck rfl rfl) ?_
    refine wt_read rfl rfl rfl rfl (yl_fieldB rfl rfl Try.underlying42 rfl (by kernel_rfl) rfl) ?_
    refine wt_store rfl rfl rfl (es_at2 (es_store 2 rfl rfl rfl rfl (by kernel_rfl) rfl rfl)) ⟨[_, _, _], rfl⟩ ?_
    refine wt_nil ?_
    refine at_keep (Keep.cons 0 rfl (Keep.cons 1 rfl (Keep.cons 4 rfl (Keep.cons 5 rfl (Keep.cons 6 rfl (Keep.cons 14 rfl (Keep.cons 20 rfl Keep.nil))))))) ?_
    refine at_seq ?_
    refine at_region ?_
    refine wl_read rfl rfl rfl (yl_move rfl rfl) ?_
    refine wl_read rfl rfl rfl (yl_nilCheck rfl rfl) ?_
    refine wl_read rfl rfl rfl (yl_fieldB rfl rfl Try.underlying42 rfl (by kernel_rfl) rfl) ?_
    refine wl_read rfl rfl rfl (yl_load rfl rfl Try.underlying3 rfl (CellAt.bk 2 rfl rfl)) ?_
    refine wl_read rfl rfl rfl (yl_add rfl rfl rfl (w64 (by omega) (by omega))) ?_
    refine wl_read rfl rfl rfl (yl_nilCheck rfl rfl) ?_
    refine wl_read rfl rfl rfl (yl_fieldB rfl rfl Try.underlying42 rfl (by kernel_rfl) rfl) ?_
    refine wl_store rfl rfl (es_at2 (es_store 2 rfl rfl rfl rfl (by kernel_rfl) rfl rfl)) ?_
    refine wl_nil ?_
    refine at_keep (Keep.cons 0 rfl (Keep.cons 1 rfl (Keep.cons 4 rfl (Keep.cons 5 rfl (Keep.cons 6 rfl (Keep.cons 14 rfl (Keep.cons 20 rfl Keep.nil))))))) ?_
    refine at_seq ?_
    refine at_region ?_
    refine wl_read rfl rfl rfl (yl_assign rfl rfl) ?_
    refine wl_nil ?_
    refine at_keep (Keep.cons 0 rfl (Keep.cons 1 rfl (Keep.cons 4 rfl (Keep.cons 5 rfl (Keep.cons 6 rfl (Keep.cons 14 rfl (Keep.cons 20 rfl Keep.nil))))))) ?_
    refine at_retH (fun _ hw => (Chn.closes (ms := ms ++ [(at_ ms j).cp A1 c1]) (k := { k with rep := k.rep + 1 }) hw.front5.front1.front3.drop3.drop3.drop3).front1) Try.func33 (res1 rfl rfl) ?_
    exact ⟨A1, c1, rfl, rfl⟩
theorem rrepeat_full (ms : List Msg) (k : Cts) (g : Nat) (b : World) (H : List Asr) (j : Nat) (hok : Ok H ms) (hj : j < ms.length) (hm : 500 ≤ ms.length) : Fn Try.prog 33 [.pointer (some ⟨g, 0, none⟩), .int .i64 (j : Int)] b (Chn 42 g ms k :: H) (fun v H' => v = .int .i64 7 ∧ Chn 42 g ms k :: H = H') := by
  refine Chn.fn fun A c => ?_
  refine fn_of_at (by kernel_rfl) Try.func33 rfl Try.ntmps33 rfl rfl ?_
  refine at_seq ?_
  refine at_region ?_
  refine wl_read rfl rfl rfl (yl_assign rfl rfl) ?_
  refine wl_nil ?_
  refine at_keep (Keep.cons 0 rfl (Keep.cons 1 rfl (Keep.cons 4 rfl Keep.nil))) ?_
  refine at_seq ?_
  refine at_region ?_
  refine wl_read rfl rfl rfl (yl_move rfl rfl) ?_
  refine wl_read rfl rfl rfl (yl_move rfl rfl) ?_
  refine wl_call rfl rfl rfl (en_call rfl rfl) (rat_at ms g j _ _ (CellAt.bk 0 rfl rfl) (Rd.of_sl 1 rfl) ((hok.cons _).cons _) hj) ?_
  rintro _ _ ⟨A1, c1, rfl, rfl⟩
  refine wl_read rfl rfl rfl (yl_move rfl rfl) ?_
  refine wl_read rfl rfl rfl (yl_extract rfl rfl rfl) ?_
  refine wl_read rfl rfl rfl (yl_extract rfl rfl rfl) ?_
  refine wl_eff rfl rfl rfl (ef_alloc (cs := [.int .i64 0, .int .i64 0, .slice none 0 0]) (z := .agg #[.int .i64 0, .int .i64 0, .slice none 0 0]) rfl (by kernel_rfl) rfl) ?_
  rintro _ _ ⟨g5, rfl, rfl⟩
  refine wl_store rfl rfl (es_at0 (es_storeN 0 rfl rfl rfl rfl (by kernel_rfl) rfl rfl)) ?_
  refine wl_read rfl rfl rfl (yl_assign rfl rfl) ?_
  refine wl_nil ?_
  refine at_keep (Keep.cons 0 rfl (Keep.cons 1 rfl (Keep.cons 4 rfl (Keep.cons 5 rfl (Keep.cons 6 rfl Keep.nil))))) ?_
  refine at_seq ?_
  refine at_seq ?_
  refine at_region ?_
  refine wl_read rfl rfl rfl (yl_move rfl rfl) ?_
  refine wl_read rfl rfl rfl (yl_notT rfl rfl) ?_
  refine wl_nil ?_
  refine at_keep (Keep.cons 0 rfl (Keep.cons 1 rfl (Keep.cons 4 rfl (Keep.cons 5 rfl (Keep.cons 6 rfl (Keep.cons 14 rfl Keep.nil)))))) ?_
  refine at_false rfl ?_
  refine at_skip ?_
  refine at_seq ?_
  refine at_seq ?_
  refine at_region ?_
  refine wl_read rfl rfl rfl (yl_move rfl rfl) ?_
  refine wl_read rfl rfl rfl (yl_nilCheck rfl rfl) ?_
  refine wl_read rfl rfl rfl (yl_fieldB rfl rfl Try.underlying42 rfl (by kernel_rfl) rfl) ?_
  refine wl_read rfl rfl rfl (yl_load rfl rfl Try.underlying40 rfl (CellAt.bk 2 rfl rfl)) ?_
  refine wl_read rfl rfl rfl (yl_len rfl rfl Try.underlying40) ?_
  refine wl_read rfl rfl rfl ((yp_geq rfl rfl rfl).1 (by omega)) ?_
  refine wl_nil ?_
  refine at_keep (Keep.cons 0 rfl (Keep.cons 1 rfl (Keep.cons 4 rfl (Keep.cons 5 rfl (Keep.cons 6 rfl (Keep.cons 14 rfl (Keep.cons 20 rfl Keep.nil))))))) ?_
  refine at_true rfl ?_
  refine at_seq ?_
  refine at_region ?_
  refine wl_read rfl rfl rfl (yl_assign rfl rfl) ?_
  refine wl_nil ?_
  refine at_keep (Keep.cons 0 rfl (Keep.cons 1 rfl (Keep.cons 4 rfl (Keep.cons 5 rfl (Keep.cons 6 rfl (Keep.cons 14 rfl (Keep.cons 20 rfl Keep.nil))))))) ?_
  refine at_retH (fun _ hw => (Chn.closes  hw.front3.front3.drop2.drop2)) Try.func33 (res1 rfl rfl) ?_
  exact ⟨rfl, rfl⟩
theorem rrepeat_out (ms : List Msg) (k : Cts) (g : Nat) (b : World) (H : List Asr) (i : Int) (hi : ¬ (0 ≤ i ∧ i < ms.length)) : Fn Try.prog 33 [.pointer (some ⟨g, 0, none⟩), .int .i64 i] b (Chn 42 g ms k :: H) (fun v H' => v = .int .i64 9 ∧ Chn 42 g ms k :: H = H') := by
  refine Chn.fn fun A c => ?_
  refine fn_of_at (by kernel_rfl) Try.func33 rfl Try.ntmps33 rfl rfl ?_
  refine at_seq ?_
  refine at_region ?_
  refine wl_read rfl rfl rfl (yl_assign rfl rfl) ?_
  refine wl_nil ?_
  refine at_keep (Keep.cons 0 rfl (Keep.cons 1 rfl (Keep.cons 4 rfl Keep.nil))) ?_
  refine at_seq ?_
  refine at_region ?_
  refine wl_read rfl rfl rfl (yl_move rfl rfl) ?_
  refine wl_read rfl rfl rfl (yl_move rfl rfl) ?_
  refine wl_call rfl rfl rfl (en_call rfl rfl) (rat_out g _ _ i (CellAt.bk 0 rfl rfl) hi) ?_
  rintro _ _ ⟨rfl, rfl⟩
  refine wl_read rfl rfl rfl (yl_move rfl rfl) ?_
  refine wl_read rfl rfl rfl (yl_extract rfl rfl rfl) ?_
  refine wl_read rfl rfl rfl (yl_extract rfl rfl rfl) ?_
  refine wl_eff rfl rfl rfl (ef_alloc (cs := [.int .i64 0, .int .i64 0, .slice none 0 0]) (z := .agg #[.int .i64 0, .int .i64 0, .slice none 0 0]) rfl (by kernel_rfl) rfl) ?_
  rintro _ _ ⟨g5, rfl, rfl⟩
  refine wl_store rfl rfl (es_at0 (es_storeN 0 rfl rfl rfl rfl (by kernel_rfl) rfl rfl)) ?_
  refine wl_read rfl rfl rfl (yl_assign rfl rfl) ?_
  refine wl_nil ?_
  refine at_keep (Keep.cons 0 rfl (Keep.cons 1 rfl (Keep.cons 4 rfl (Keep.cons 5 rfl (Keep.cons 6 rfl Keep.nil))))) ?_
  refine at_seq ?_
  refine at_seq ?_
  refine at_region ?_
  refine wl_read rfl rfl rfl (yl_move rfl rfl) ?_
  refine wl_read rfl rfl rfl (yl_notF rfl rfl) ?_
  refine wl_nil ?_
  refine at_keep (Keep.cons 0 rfl (Keep.cons 1 rfl (Keep.cons 4 rfl (Keep.cons 5 rfl (Keep.cons 6 rfl (Keep.cons 14 rfl Keep.nil)))))) ?_
  refine at_true rfl ?_
  refine at_seq ?_
  refine at_region ?_
  refine wl_read rfl rfl rfl (yl_assign rfl rfl) ?_
  refine wl_nil ?_
  refine at_keep (Keep.cons 0 rfl (Keep.cons 1 rfl (Keep.cons 4 rfl (Keep.cons 5 rfl (Keep.cons 6 rfl (Keep.cons 14 rfl Keep.nil)))))) ?_
  refine at_retH (fun _ hw => (Chn.closes  hw.front2.front2.drop2)) Try.func33 (res1 rfl rfl) ?_
  exact ⟨rfl, rfl⟩
theorem repeat_nil (i : Int) (b : World) (H : List Asr) : Fn Try.prog 21 [.pointer none, .int .i64 i] b H (fun v H' => v = .int .i64 1 ∧ H = H') := by
  refine fn_of_at (by kernel_rfl) Try.func21 rfl Try.ntmps21 rfl rfl ?_
  refine at_seq ?_
  refine at_region ?_
  refine wl_read rfl rfl rfl (yl_assign rfl rfl) ?_
  refine wl_nil ?_
  refine at_keep (Keep.cons 0 rfl (Keep.cons 1 rfl (Keep.cons 4 rfl Keep.nil))) ?_
  refine at_seq ?_
  refine at_seq ?_
  refine at_region ?_
  refine wl_read rfl rfl rfl (yl_move rfl rfl) ?_
  refine wl_read rfl rfl rfl (yl_eqPtr rfl rfl rfl (by kernel_rfl) rfl) ?_
  refine wl_nil ?_
  refine at_keep (Keep.cons 0 rfl (Keep.cons 1 rfl (Keep.cons 4 rfl (Keep.cons 8 rfl Keep.nil)))) ?_
  refine at_true rfl ?_
  refine at_seq ?_
  refine at_region ?_
  refine wl_read rfl rfl rfl (yl_assign rfl rfl) ?_
  refine wl_nil ?_
  refine at_keep (Keep.cons 0 rfl (Keep.cons 1 rfl (Keep.cons 4 rfl (Keep.cons 8 rfl Keep.nil)))) ?_
  refine at_ret Try.func21 (res1 rfl rfl) ?_
  exact ⟨rfl, rfl⟩
theorem send_bad (ms : List Msg) (k : Cts) (g : Nat) (b : World) (H : List Asr) (f t : Int) (bs : List UInt8) (A0 : Option Addr) (c0 : Nat) (hs : ¬ okS f t bs) : Fn Try.prog 13 [.pointer (some ⟨g, 0, none⟩), .int .i64 f, .int .i64 t, .slice A0 bs.length c0] b (Chn 58 g ms k :: H) (fun v H' => v = .int .i64 1 ∧ Chn 58 g ms k :: H = H') := by
  unfold okS at hs
  refine fn_of_at (by kernel_rfl) Try.func13 rfl Try.ntmps13 rfl rfl ?_
  refine at_seq ?_
  refine at_region ?_
  refine wl_read rfl rfl rfl (yl_assign rfl rfl) ?_
  refine wl_nil ?_
  refine at_keep (Keep.cons 0 rfl (Keep.cons 1 rfl (Keep.cons 2 rfl (Keep.cons 3 rfl (Keep.cons 8 rfl Keep.nil))))) ?_
  refine at_seq ?_
  refine at_seq ?_
  refine at_region ?_
  refine wl_read rfl rfl rfl (yl_move rfl rfl) ?_
  refine wl_read rfl rfl rfl (yl_eqPtr rfl rfl rfl (by kernel_rfl) rfl) ?_
  refine wl_read rfl rfl rfl (yl_move rfl rfl) ?_
  refine wl_read rfl rfl rfl (yl_move rfl rfl) ?_
  refine wl_call rfl rfl rfl (en_call rfl rfl) (isState_fn f _ _) ?_
  rintro _ _ ⟨rfl, rfl⟩
  rcases Classical.em (0 ≤ f ∧ f < 6) with hf | hf
  ·
    rw [decide_eq_true hf]
    refine wl_read rfl rfl rfl (yl_notT rfl rfl) ?_
    refine wl_read rfl rfl rfl (yl_pickF rfl rfl rfl) ?_
    refine wl_read rfl rfl rfl (yl_move rfl rfl) ?_
    refine wl_read rfl rfl rfl (yl_move rfl rfl) ?_
    refine wl_call rfl rfl rfl (en_call rfl rfl) (isState_fn t _ _) ?_
    rintro _ _ ⟨rfl, rfl⟩
    rcases Classical.em (0 ≤ t ∧ t < 6) with ht | ht
    ·
      rw [decide_eq_true ht]
      refine wl_read rfl rfl rfl (yl_notT rfl rfl) ?_
      refine wl_read rfl rfl rfl (yl_pickF rfl rfl rfl) ?_
      refine wl_read rfl rfl rfl (yl_move rfl rfl) ?_
      refine wl_read rfl rfl rfl (yl_move rfl rfl) ?_
      refine wl_read rfl rfl rfl (yl_move rfl rfl) ?_
      refine wl_split rfl rfl rfl (yp_eql rfl rfl rfl) ?_ ?_
      · intro h1_15
        refine wl_read rfl rfl rfl (yl_pickF rfl rfl rfl) ?_
        refine wl_read rfl rfl rfl (yl_move rfl rfl) ?_
        refine wl_skip rfl rfl rfl ?_
        refine wl_skip rfl rfl rfl ?_
        refine wl_skip rfl rfl rfl ?_
        refine wl_read rfl rfl rfl (yl_pickT rfl rfl rfl) ?_
        refine wl_read rfl rfl rfl (yl_move rfl rfl) ?_
        refine wl_skip rfl rfl rfl ?_
        refine wl_skip rfl rfl rfl ?_
        refine wl_skip rfl rfl rfl ?_
        refine wl_read rfl rfl rfl (yl_pickT rfl rfl rfl) ?_
        refine wl_nil ?_
        refine at_keep (Keep.cons 0 rfl (Keep.cons 1 rfl (Keep.cons 2 rfl (Keep.cons 3 rfl (Keep.cons 8 rfl (Keep.cons 35 rfl Keep.nil)))))) ?_
        refine at_true rfl ?_
        refine at_seq ?_
        refine at_region ?_
        refine wl_read rfl rfl rfl (yl_assign rfl rfl) ?_
        refine wl_nil ?_
        refine at_keep (Keep.cons 0 rfl (Keep.cons 1 rfl (Keep.cons 2 rfl (Keep.cons 3 rfl (Keep.cons 8 rfl (Keep.cons 35 rfl Keep.nil)))))) ?_
        refine at_ret Try.func13 (res1 rfl rfl) ?_
        exact ⟨rfl, rfl⟩
      · intro h1_15
        refine wl_read rfl rfl rfl (yl_pickF rfl rfl rfl) ?_
        refine wl_read rfl rfl rfl (yl_move rfl rfl) ?_
        refine wl_read rfl rfl rfl (yl_move rfl rfl) ?_
        refine wl_read rfl rfl rfl (yl_len rfl rfl Try.underlying27) ?_
        refine wl_split rfl rfl rfl (yp_eql rfl rfl rfl) ?_ ?_
        · intro h1_20
          refine wl_read rfl rfl rfl (yl_pickF rfl rfl rfl) ?_
          refine wl_read rfl rfl rfl (yl_move rfl rfl) ?_
          refine wl_skip rfl rfl rfl ?_
          refine wl_skip rfl rfl rfl ?_
          refine wl_skip rfl rfl rfl ?_
          refine wl_read rfl rfl rfl (yl_pickT rfl rfl rfl) ?_
          refine wl_nil ?_
          refine at_keep (Keep.cons 0 rfl (Keep.cons 1 rfl (Keep.cons 2 rfl (Keep.cons 3 rfl (Keep.cons 8 rfl (Keep.cons 35 rfl Keep.nil)))))) ?_
          refine at_true rfl ?_
          refine at_seq ?_
          refine at_region ?_
          refine wl_read rfl rfl rfl (yl_assign rfl rfl) ?_
          refine wl_nil ?_
          refine at_keep (Keep.cons 0 rfl (Keep.cons 1 rfl (Keep.cons 2 rfl (Keep.cons 3 rfl (Keep.cons 8 rfl (Keep.cons 35 rfl Keep.nil)))))) ?_
          refine at_ret Try.func13 (res1 rfl rfl) ?_
          exact ⟨rfl, rfl⟩
        · intro h1_20
          refine wl_read rfl rfl rfl (yl_pickF rfl rfl rfl) ?_
          refine wl_read rfl rfl rfl (yl_move rfl rfl) ?_
          refine wl_read rfl rfl rfl (yl_move rfl rfl) ?_
          refine wl_read rfl rfl rfl (yl_len rfl rfl Try.underlying27) ?_
          refine wl_split rfl rfl rfl (yp_gtr rfl rfl rfl) ?_ ?_
          · intro h1_25
            refine wl_read rfl rfl rfl (yl_pickF rfl rfl rfl) ?_
            refine wl_nil ?_
            refine at_keep (Keep.cons 0 rfl (Keep.cons 1 rfl (Keep.cons 2 rfl (Keep.cons 3 rfl (Keep.cons 8 rfl (Keep.cons 35 rfl Keep.nil)))))) ?_
            refine at_true rfl ?_
            refine at_seq ?_
            refine at_region ?_
            refine wl_read rfl rfl rfl (yl_assign rfl rfl) ?_
            refine wl_nil ?_
            refine at_keep (Keep.cons 0 rfl (Keep.cons 1 rfl (Keep.cons 2 rfl (Keep.cons 3 rfl (Keep.cons 8 rfl (Keep.cons 35 rfl Keep.nil)))))) ?_
            refine at_ret Try.func13 (res1 rfl rfl) ?_
            exact ⟨rfl, rfl⟩
          · intro h1_25
            exact absurd (by omega) hs
    ·
      rw [decide_eq_false ht]
      refine wl_read rfl rfl rfl (yl_notF rfl rfl) ?_
      refine wl_read rfl rfl rfl (yl_pickF rfl rfl rfl) ?_
      refine wl_read rfl rfl rfl (yl_move rfl rfl) ?_
      refine wl_skip rfl rfl rfl ?_
      refine wl_skip rfl rfl rfl ?_
      refine wl_skip rfl rfl rfl ?_
      refine wl_read rfl rfl rfl (yl_pickT rfl rfl rfl) ?_
      refine wl_read rfl rfl rfl (yl_move rfl rfl) ?_
      refine wl_skip rfl rfl rfl ?_
      refine wl_skip rfl rfl rfl ?_
      refine wl_skip rfl rfl rfl ?_
      refine wl_read rfl rfl rfl (yl_pickT rfl rfl rfl) ?_
      refine wl_read rfl rfl rfl (yl_move rfl rfl) ?_
      refine wl_skip rfl rfl rfl ?_
      refine wl_skip rfl rfl rfl ?_
      refine wl_skip rfl rfl rfl ?_
      refine wl_read rfl rfl rfl (yl_pickT rfl rfl rfl) ?_
      refine wl_nil ?_
      refine at_keep (Keep.cons 0 rfl (Keep.cons 1 rfl (Keep.cons 2 rfl (Keep.cons 3 rfl (Keep.cons 8 rfl (Keep.cons 35 rfl Keep.nil)))))) ?_
      refine at_true rfl ?_
      refine at_seq ?_
      refine at_region ?_
      refine wl_read rfl rfl rfl (yl_assign rfl rfl) ?_
      refine wl_nil ?_
      refine at_keep (Keep.cons 0 rfl (Keep.cons 1 rfl (Keep.cons 2 rfl (Keep.cons 3 rfl (Keep.cons 8 rfl (Keep.cons 35 rfl Keep.nil)))))) ?_
      refine at_ret Try.func13 (res1 rfl rfl) ?_
      exact ⟨rfl, rfl⟩
  ·
    rw [decide_eq_false hf]
    refine wl_read rfl rfl rfl (yl_notF rfl rfl) ?_
    refine wl_read rfl rfl rfl (yl_pickF rfl rfl rfl) ?_
    refine wl_read rfl rfl rfl (yl_move rfl rfl) ?_
    refine wl_skip rfl rfl rfl ?_
    refine wl_skip rfl rfl rfl ?_
    refine wl_skip rfl rfl rfl ?_
    refine wl_read rfl rfl rfl (yl_pickT rfl rfl rfl) ?_
    refine wl_read rfl rfl rfl (yl_move rfl rfl) ?_
    refine wl_skip rfl rfl rfl ?_
    refine wl_skip rfl rfl rfl ?_
    refine wl_skip rfl rfl rfl ?_
    refine wl_read rfl rfl rfl (yl_pickT rfl rfl rfl) ?_
    refine wl_read rfl rfl rfl (yl_move rfl rfl) ?_
    refine wl_skip rfl rfl rfl ?_
    refine wl_skip rfl rfl rfl ?_
    refine wl_skip rfl rfl rfl ?_
    refine wl_read rfl rfl rfl (yl_pickT rfl rfl rfl) ?_
    refine wl_read rfl rfl rfl (yl_move rfl rfl) ?_
    refine wl_skip rfl rfl rfl ?_
    refine wl_skip rfl rfl rfl ?_
    refine wl_skip rfl rfl rfl ?_
    refine wl_read rfl rfl rfl (yl_pickT rfl rfl rfl) ?_
    refine wl_nil ?_
    refine at_keep (Keep.cons 0 rfl (Keep.cons 1 rfl (Keep.cons 2 rfl (Keep.cons 3 rfl (Keep.cons 8 rfl (Keep.cons 35 rfl Keep.nil)))))) ?_
    refine at_true rfl ?_
    refine at_seq ?_
    refine at_region ?_
    refine wl_read rfl rfl rfl (yl_assign rfl rfl) ?_
    refine wl_nil ?_
    refine at_keep (Keep.cons 0 rfl (Keep.cons 1 rfl (Keep.cons 2 rfl (Keep.cons 3 rfl (Keep.cons 8 rfl (Keep.cons 35 rfl Keep.nil)))))) ?_
    refine at_ret Try.func13 (res1 rfl rfl) ?_
    exact ⟨rfl, rfl⟩
theorem send_full (ms : List Msg) (k : Cts) (g : Nat) (b : World) (H : List Asr) (f t : Int) (bs : List UInt8) (A0 : Option Addr) (c0 : Nat) (hs : okS f t bs) (hm : 500 ≤ ms.length) : Fn Try.prog 13 [.pointer (some ⟨g, 0, none⟩), .int .i64 f, .int .i64 t, .slice A0 bs.length c0] b (Chn 58 g ms k :: H) (fun v H' => v = .int .i64 7 ∧ Chn 58 g ms k :: H = H') := by
  unfold okS at hs
  refine Chn.fn fun A c => ?_
  refine fn_of_at (by kernel_rfl) Try.func13 rfl Try.ntmps13 rfl rfl ?_
  refine at_seq ?_
  refine at_region ?_
  refine wl_read rfl rfl rfl (yl_assign rfl rfl) ?_
  refine wl_nil ?_
  refine at_keep (Keep.cons 0 rfl (Keep.cons 1 rfl (Keep.cons 2 rfl (Keep.cons 3 rfl (Keep.cons 8 rfl Keep.nil))))) ?_
  refine at_seq ?_
  refine at_seq ?_
  refine at_region ?_
  refine wl_read rfl rfl rfl (yl_move rfl rfl) ?_
  refine wl_read rfl rfl rfl (yl_eqPtr rfl rfl rfl (by kernel_rfl) rfl) ?_
  refine wl_read rfl rfl rfl (yl_move rfl rfl) ?_
  refine wl_read rfl rfl rfl (yl_move rfl rfl) ?_
  refine wl_call rfl rfl rfl (en_call rfl rfl) (isState_fn f _ _) ?_
  rintro _ _ ⟨rfl, rfl⟩
  rw [decide_eq_true hs.1]
  refine wl_read rfl rfl rfl (yl_notT rfl rfl) ?_
  refine wl_read rfl rfl rfl (yl_pickF rfl rfl rfl) ?_
  refine wl_read rfl rfl rfl (yl_move rfl rfl) ?_
  refine wl_read rfl rfl rfl (yl_move rfl rfl) ?_
  refine wl_call rfl rfl rfl (en_call rfl rfl) (isState_fn t _ _) ?_
  rintro _ _ ⟨rfl, rfl⟩
  rw [decide_eq_true hs.2.1]
  refine wl_read rfl rfl rfl (yl_notT rfl rfl) ?_
  refine wl_read rfl rfl rfl (yl_pickF rfl rfl rfl) ?_
  refine wl_read rfl rfl rfl (yl_move rfl rfl) ?_
  refine wl_read rfl rfl rfl (yl_move rfl rfl) ?_
  refine wl_read rfl rfl rfl (yl_move rfl rfl) ?_
  refine wl_read rfl rfl rfl ((yp_eql rfl rfl rfl).2 (by omega)) ?_
  refine wl_read rfl rfl rfl (yl_pickF rfl rfl rfl) ?_
  refine wl_read rfl rfl rfl (yl_move rfl rfl) ?_
  refine wl_read rfl rfl rfl (yl_move rfl rfl) ?_
  refine wl_read rfl rfl rfl (yl_len rfl rfl Try.underlying27) ?_
  refine wl_read rfl rfl rfl ((yp_eql rfl rfl rfl).2 (by omega)) ?_
  refine wl_read rfl rfl rfl (yl_pickF rfl rfl rfl) ?_
  refine wl_read rfl rfl rfl (yl_move rfl rfl) ?_
  refine wl_read rfl rfl rfl (yl_move rfl rfl) ?_
  refine wl_read rfl rfl rfl (yl_len rfl rfl Try.underlying27) ?_
  refine wl_read rfl rfl rfl ((yp_gtr rfl rfl rfl).2 (by omega)) ?_
  refine wl_read rfl rfl rfl (yl_pickF rfl rfl rfl) ?_
  refine wl_nil ?_
  refine at_keep (Keep.cons 0 rfl (Keep.cons 1 rfl (Keep.cons 2 rfl (Keep.cons 3 rfl (Keep.cons 8 rfl (Keep.cons 35 rfl Keep.nil)))))) ?_
  refine at_false rfl ?_
  refine at_skip ?_
  refine at_seq ?_
  refine at_seq ?_
  refine at_region ?_
  refine wl_read rfl rfl rfl (yl_move rfl rfl) ?_
  refine wl_read rfl rfl rfl (yl_nilCheck rfl rfl) ?_
  refine wl_read rfl rfl rfl (yl_fieldB rfl rfl Try.underlying58 rfl (by kernel_rfl) rfl) ?_
  refine wl_read rfl rfl rfl (yl_load rfl rfl Try.underlying40 rfl (CellAt.bk 0 rfl rfl)) ?_
  refine wl_read rfl rfl rfl (yl_len rfl rfl Try.underlying40) ?_
  refine wl_read rfl rfl rfl ((yp_geq rfl rfl rfl).1 (by omega)) ?_
  refine wl_nil ?_
  refine at_keep (Keep.cons 0 rfl (Keep.cons 1 rfl (Keep.cons 2 rfl (Keep.cons 3 rfl (Keep.cons 8 rfl (Keep.cons 35 rfl (Keep.cons 41 rfl Keep.nil))))))) ?_
  refine at_true rfl ?_
  refine at_seq ?_
  refine at_region ?_
  refine wl_read rfl rfl rfl (yl_assign rfl rfl) ?_
  refine wl_nil ?_
  refine at_keep (Keep.cons 0 rfl (Keep.cons 1 rfl (Keep.cons 2 rfl (Keep.cons 3 rfl (Keep.cons 8 rfl (Keep.cons 35 rfl (Keep.cons 41 rfl Keep.nil))))))) ?_
  refine at_retH (fun _ hw => (Chn.closes  hw.front1.front1)) Try.func13 (res1 rfl rfl) ?_
  exact ⟨rfl, rfl⟩
theorem send_fn (ms : List Msg) (k : Cts) (g : Nat) (b : World) (H : List Asr) (f t : Int) (bs : List UInt8) (A0 : Option Addr) (c0 : Nat) (hs : okS f t bs) (hm : ms.length < 500) (hk : 0 ≤ k.sent ∧ k.sent ≤ 1000000) (hR : Rd H A0 bs) : Fn Try.prog 13 [.pointer (some ⟨g, 0, none⟩), .int .i64 f, .int .i64 t, .slice A0 bs.length c0] b (Chn 58 g ms k :: H)
    (fun v H' => ∃ A' c', v = .int .i64 0 ∧ H' = Sl A' c' 5 bs :: Chn 58 g (ms ++ [⟨f, t, A', c', bs⟩]) { k with sent := k.sent + 1 } :: H) := by
  unfold okS at hs
  refine Chn.fn fun A c => ?_
  refine fn_of_at (by kernel_rfl) Try.func13 rfl Try.ntmps13 rfl rfl ?_
  refine at_seq ?_
  refine at_region ?_
  refine wl_read rfl rfl rfl (yl_assign rfl rfl) ?_
  refine wl_nil ?_
  refine at_keep (Keep.cons 0 rfl (Keep.cons 1 rfl (Keep.cons 2 rfl (Keep.cons 3 rfl (Keep.cons 8 rfl Keep.nil))))) ?_
  refine at_seq ?_
  refine at_seq ?_
  refine at_region ?_
  refine wl_read rfl rfl rfl (yl_move rfl rfl) ?_
  refine wl_read rfl rfl rfl (yl_eqPtr rfl rfl rfl (by kernel_rfl) rfl) ?_
  refine wl_read rfl rfl rfl (yl_move rfl rfl) ?_
  refine wl_read rfl rfl rfl (yl_move rfl rfl) ?_
  refine wl_call rfl rfl rfl (en_call rfl rfl) (isState_fn f _ _) ?_
  rintro _ _ ⟨rfl, rfl⟩
  rw [decide_eq_true hs.1]
  refine wl_read rfl rfl rfl (yl_notT rfl rfl) ?_
  refine wl_read rfl rfl rfl (yl_pickF rfl rfl rfl) ?_
  refine wl_read rfl rfl rfl (yl_move rfl rfl) ?_
  refine wl_read rfl rfl rfl (yl_move rfl rfl) ?_
  refine wl_call rfl rfl rfl (en_call rfl rfl) (isState_fn t _ _) ?_
  rintro _ _ ⟨rfl, rfl⟩
  rw [decide_eq_true hs.2.1]
  refine wl_read rfl rfl rfl (yl_notT rfl rfl) ?_
  refine wl_read rfl rfl rfl (yl_pickF rfl rfl rfl) ?_
  refine wl_read rfl rfl rfl (yl_move rfl rfl) ?_
  refine wl_read rfl rfl rfl (yl_move rfl rfl) ?_
  refine wl_read rfl rfl rfl (yl_move rfl rfl) ?_
  refine wl_read rfl rfl rfl ((yp_eql rfl rfl rfl).2 (by omega)) ?_
  refine wl_read rfl rfl rfl (yl_pickF rfl rfl rfl) ?_
  refine wl_read rfl rfl rfl (yl_move rfl rfl) ?_
  refine wl_read rfl rfl rfl (yl_move rfl rfl) ?_
  refine wl_read rfl rfl rfl (yl_len rfl rfl Try.underlying27) ?_
  refine wl_read rfl rfl rfl ((yp_eql rfl rfl rfl).2 (by omega)) ?_
  refine wl_read rfl rfl rfl (yl_pickF rfl rfl rfl) ?_
  refine wl_read rfl rfl rfl (yl_move rfl rfl) ?_
  refine wl_read rfl rfl rfl (yl_move rfl rfl) ?_
  refine wl_read rfl rfl rfl (yl_len rfl rfl Try.underlying27) ?_
  refine wl_read rfl rfl rfl ((yp_gtr rfl rfl rfl).2 (by omega)) ?_
  refine wl_read rfl rfl rfl (yl_pickF rfl rfl rfl) ?_
  refine wl_nil ?_
  refine at_keep (Keep.cons 0 rfl (Keep.cons 1 rfl (Keep.cons 2 rfl (Keep.cons 3 rfl (Keep.cons 8 rfl (Keep.cons 35 rfl Keep.nil)))))) ?_
  refine at_false rfl ?_
  refine at_skip ?_
  refine at_seq ?_
  refine at_seq ?_
  refine at_region ?_
  refine wl_read rfl rfl rfl (yl_move rfl rfl) ?_
  refine wl_read rfl rfl rfl (yl_nilCheck rfl rfl) ?_
  refine wl_read rfl rfl rfl (yl_fieldB rfl rfl Try.underlying58 rfl (by kernel_rfl) rfl) ?_
  refine wl_read rfl rfl rfl (yl_load rfl rfl Try.underlying40 rfl (CellAt.bk 0 rfl rfl)) ?_
  refine wl_read rfl rfl rfl (yl_len rfl rfl Try.underlying40) ?_
  refine wl_read rfl rfl rfl ((yp_geq rfl rfl rfl).2 (by omega)) ?_
  refine wl_nil ?_
  refine at_keep (Keep.cons 0 rfl (Keep.cons 1 rfl (Keep.cons 2 rfl (Keep.cons 3 rfl (Keep.cons 8 rfl (Keep.cons 35 rfl (Keep.cons 41 rfl Keep.nil))))))) ?_
  refine at_false rfl ?_
  refine at_skip ?_
  refine at_seq ?_
  refine at_heap (fun _ hw => hw.front1) ?_
  refine at_draw2 (.fl 0 (.fl 1 (.fl 2 (.fl 3 (.fl 5 (.fl 6 (.fl 7 (.ef2 4 (.ef 8 (.fl 9 (.ef 10 (.ef 11 (.fl 12 (.fl 13 (.ef 14 .nil))))))) 8 (.fl 9 (.ef2 4 (.ef 10 (.ef 11 (.fl 12 (.fl 13 (.ef 14 .nil))))) 10 (.ef 4 (.ef 11 (.fl 12 (.fl 13 (.ef 14 .nil))))))))))))))) (by kernel_rfl) (by kernel_rfl) ?_
  refine wt_read rfl rfl rfl rfl (yl_move rfl rfl) ?_
  refine wt_read rfl rfl rfl rfl (yl_move rfl rfl) ?_
  refine wt_read rfl rfl rfl rfl (yl_nilCheck rfl rfl) ?_
  refine wt_read rfl rfl rfl rfl (yl_fieldB rfl rfl Try.underlying58 rfl (by kernel_rfl) rfl) ?_
  refine wt_read rfl rfl rfl rfl (yl_move rfl rfl) ?_
  refine wt_read rfl rfl rfl rfl (yl_move rfl rfl) ?_
  refine wt_read rfl rfl rfl rfl (yl_move rfl rfl) ?_
  refine wt_two ?_ ?_
  ·
    refine wt_readE rfl rfl rfl rfl (yl_load rfl rfl Try.underlying40 rfl (CellAt.bk 1 rfl rfl)) ⟨[_, _], rfl⟩ ?_
    refine wt_call rfl rfl rfl rfl (en_call rfl rfl) (clone_fn bs A0 c0 _ _ ((hR.cons _).cons _) (by omega)) ?_
    rintro _ _ ⟨A1, c1, rfl, rfl⟩
    refine ⟨⟨[_, _, _], rfl⟩, ?_⟩
    refine wt_read rfl rfl rfl rfl (yl_build (cs := [.int .i64 f, .int .i64 t, .slice A1 bs.length c1]) rfl rfl (fun _ => by kernel_rfl)) ?_
    refine wt_eff rfl rfl rfl rfl (ef_buildSlice (e := 33) [(⟨f, t, A1, c1, bs⟩ : Msg)] rfl rfl (fun _ => by kernel_rfl) rfl rfl) ?_
    rintro _ _ ⟨T5_10, rfl, rfl⟩
    refine ⟨⟨[_, _, _, _], rfl⟩, ?_⟩
    refine wt_eff rfl rfl rfl rfl (ef_append (ys := [(⟨f, t, A1, c1, bs⟩ : Msg)]) 2 rfl rfl rfl rfl (Rd.of_sl 0 rfl) Try.underlying40 info33 rfl rfl (by simp only [List.length_singleton, maxLen]; omega) (by simp only [List.length_singleton]; omega)) ?_
    rintro _ _ ⟨A2, c2, rfl, hH⟩
    simp only [List.set_cons_succ, List.set_cons_zero] at hH; subst hH
    refine ⟨⟨[_, _, _, _], rfl⟩, ?_⟩
    refine wt_read rfl rfl rfl rfl (yl_nilCheck rfl rfl) ?_
    refine wt_read rfl rfl rfl rfl (yl_fieldB rfl rfl Try.underlying58 rfl (by kernel_rfl) rfl) ?_
    refine wt_store rfl rfl rfl (es_at3 (es_store 3 rfl rfl rfl rfl (by kernel_rfl) rfl rfl)) ⟨[_, _, _, _], rfl⟩ ?_
    refine wt_nil ?_
    refine at_keep (Keep.cons 0 rfl (Keep.cons 1 rfl (Keep.cons 2 rfl (Keep.cons 3 rfl (Keep.cons 8 rfl (Keep.cons 35 rfl (Keep.cons 41 rfl Keep.nil))))))) ?_
    refine at_seq ?_
    refine at_region ?_
    refine wl_read rfl rfl rfl (yl_move rfl rfl) ?_
    refine wl_read rfl rfl rfl (yl_nilCheck rfl rfl) ?_
    refine wl_read rfl rfl rfl (yl_fieldB rfl rfl Try.underlying58 rfl (by kernel_rfl) rfl) ?_
    refine wl_read rfl rfl rfl (yl_load rfl rfl Try.underlying3 rfl (CellAt.bk 3 rfl rfl)) ?_
    refine wl_read rfl rfl rfl (yl_add rfl rfl rfl (w64 (by omega) (by omega))) ?_
    refine wl_read rfl rfl rfl (yl_nilCheck rfl rfl) ?_
    refine wl_read rfl rfl rfl (yl_fieldB rfl rfl Try.underlying58 rfl (by kernel_rfl) rfl) ?_
    refine wl_store rfl rfl (es_at3 (es_store 3 rfl rfl rfl rfl (by kernel_rfl) rfl rfl)) ?_
    refine wl_nil ?_
    refine at_keep (Keep.cons 0 rfl (Keep.cons 1 rfl (Keep.cons 2 rfl (Keep.cons 3 rfl (Keep.cons 8 rfl (Keep.cons 35 rfl (Keep.cons 41 rfl Keep.nil))))))) ?_
    refine at_seq ?_
    refine at_region ?_
    refine wl_read rfl rfl rfl (yl_assign rfl rfl) ?_
    refine wl_nil ?_
    refine at_keep (Keep.cons 0 rfl (Keep.cons 1 rfl (Keep.cons 2 rfl (Keep.cons 3 rfl (Keep.cons 8 rfl (Keep.cons 35 rfl (Keep.cons 41 rfl Keep.nil))))))) ?_
    refine at_retH (fun _ hw => (Chn.closes (ms := ms ++ [(⟨f, t, A1, c1, bs⟩ : Msg)]) (k := { k with sent := k.sent + 1 }) hw.front1.front2.front3.drop3).front1) Try.func13 (res1 rfl rfl) ?_
    exact ⟨A1, c1, rfl, rfl⟩
  ·
    refine wt_call rfl rfl rfl rfl (en_call rfl rfl) (clone_fn bs A0 c0 _ _ ((hR.cons _).cons _) (by omega)) ?_
    rintro _ _ ⟨A1, c1, rfl, rfl⟩
    refine ⟨⟨[_, _, _], rfl⟩, ?_⟩
    refine wt_read rfl rfl rfl rfl (yl_build (cs := [.int .i64 f, .int .i64 t, .slice A1 bs.length c1]) rfl rfl (fun _ => by kernel_rfl)) ?_
    refine wt_two ?_ ?_
    ·
      refine wt_readE rfl rfl rfl rfl (yl_load rfl rfl Try.underlying40 rfl (CellAt.bk 2 rfl rfl)) ⟨[_, _, _], rfl⟩ ?_
      refine wt_eff rfl rfl rfl rfl (ef_buildSlice (e := 33) [(⟨f, t, A1, c1, bs⟩ : Msg)] rfl rfl (fun _ => by kernel_rfl) rfl rfl) ?_
      rintro _ _ ⟨T5_10, rfl, rfl⟩
      refine ⟨⟨[_, _, _, _], rfl⟩, ?_⟩
      refine wt_eff rfl rfl rfl rfl (ef_append (ys := [(⟨f, t, A1, c1, bs⟩ : Msg)]) 2 rfl rfl rfl rfl (Rd.of_sl 0 rfl) Try.underlying40 info33 rfl rfl (by simp only [List.length_singleton, maxLen]; omega) (by simp only [List.length_singleton]; omega)) ?_
      rintro _ _ ⟨A2, c2, rfl, hH⟩
      simp only [List.set_cons_succ, List.set_cons_zero] at hH; subst hH
      refine ⟨⟨[_, _, _, _], rfl⟩, ?_⟩
      refine wt_read rfl rfl rfl rfl (yl_nilCheck rfl rfl) ?_
      refine wt_read rfl rfl rfl rfl (yl_fieldB rfl rfl Try.underlying58 rfl (by kernel_rfl) rfl) ?_
      refine wt_store rfl rfl rfl (es_at3 (es_store 3 rfl rfl rfl rfl (by kernel_rfl) rfl rfl)) ⟨[_, _, _, _], rfl⟩ ?_
      refine wt_nil ?_
      refine at_keep (Keep.cons 0 rfl (Keep.cons 1 rfl (Keep.cons 2 rfl (Keep.cons 3 rfl (Keep.cons 8 rfl (Keep.cons 35 rfl (Keep.cons 41 rfl Keep.nil))))))) ?_
      refine at_seq ?_
      refine at_region ?_
      refine wl_read rfl rfl rfl (yl_move rfl rfl) ?_
      refine wl_read rfl rfl rfl (yl_nilCheck rfl rfl) ?_
      refine wl_read rfl rfl rfl (yl_fieldB rfl rfl Try.underlying58 rfl (by kernel_rfl) rfl) ?_
      refine wl_read rfl rfl rfl (yl_load rfl rfl Try.underlying3 rfl (CellAt.bk 3 rfl rfl)) ?_
      refine wl_read rfl rfl rfl (yl_add rfl rfl rfl (w64 (by omega) (by omega))) ?_
      refine wl_read rfl rfl rfl (yl_nilCheck rfl rfl) ?_
      refine wl_read rfl rfl rfl (yl_fieldB rfl rfl Try.underlying58 rfl (by kernel_rfl) rfl) ?_
      refine wl_store rfl rfl (es_at3 (es_store 3 rfl rfl rfl rfl (by kernel_rfl) rfl rfl)) ?_
      refine wl_nil ?_
      refine at_keep (Keep.cons 0 rfl (Keep.cons 1 rfl (Keep.cons 2 rfl (Keep.cons 3 rfl (Keep.cons 8 rfl (Keep.cons 35 rfl (Keep.cons 41 rfl Keep.nil))))))) ?_
      refine at_seq ?_
      refine at_region ?_
      refine wl_read rfl rfl rfl (yl_assign rfl rfl) ?_
      refine wl_nil ?_
      refine at_keep (Keep.cons 0 rfl (Keep.cons 1 rfl (Keep.cons 2 rfl (Keep.cons 3 rfl (Keep.cons 8 rfl (Keep.cons 35 rfl (Keep.cons 41 rfl Keep.nil))))))) ?_
      refine at_retH (fun _ hw => (Chn.closes (ms := ms ++ [(⟨f, t, A1, c1, bs⟩ : Msg)]) (k := { k with sent := k.sent + 1 }) hw.front1.front2.front3.drop3).front1) Try.func13 (res1 rfl rfl) ?_
      exact ⟨A1, c1, rfl, rfl⟩
    ·
      refine wt_eff rfl rfl rfl rfl (ef_buildSlice (e := 33) [(⟨f, t, A1, c1, bs⟩ : Msg)] rfl rfl (fun _ => by kernel_rfl) rfl rfl) ?_
      rintro _ _ ⟨T5_10, rfl, rfl⟩
      refine ⟨⟨[_, _, _, _], rfl⟩, ?_⟩
      refine wt_readE rfl rfl rfl rfl (yl_load rfl rfl Try.underlying40 rfl (CellAt.bk 3 rfl rfl)) ⟨[_, _, _, _], rfl⟩ ?_
      refine wt_eff rfl rfl rfl rfl (ef_append (ys := [(⟨f, t, A1, c1, bs⟩ : Msg)]) 2 rfl rfl rfl rfl (Rd.of_sl 0 rfl) Try.underlying40 info33 rfl rfl (by simp only [List.length_singleton, maxLen]; omega) (by simp only [List.length_singleton]; omega)) ?_
      rintro _ _ ⟨A2, c2, rfl, hH⟩
      simp only [List.set_cons_succ, List.set_cons_zero] at hH; subst hH
      refine ⟨⟨[_, _, _, _], rfl⟩, ?_⟩
      refine wt_read rfl rfl rfl rfl (yl_nilCheck rfl rfl) ?_
      refine wt_read rfl rfl rfl rfl (yl_fieldB rfl rfl Try.underlying58 rfl (by kernel_rfl) rfl) ?_
      refine wt_store rfl rfl rfl (es_at3 (es_store 3 rfl rfl rfl rfl (by kernel_rfl) rfl rfl)) ⟨[_, _, _, _], rfl⟩ ?_
      refine wt_nil ?_
      refine at_keep (Keep.cons 0 rfl (Keep.cons 1 rfl (Keep.cons 2 rfl (Keep.cons 3 rfl (Keep.cons 8 rfl (Keep.cons 35 rfl (Keep.cons 41 rfl Keep.nil))))))) ?_
      refine at_seq ?_
      refine at_region ?_
      refine wl_read rfl rfl rfl (yl_move rfl rfl) ?_
      refine wl_read rfl rfl rfl (yl_nilCheck rfl rfl) ?_
      refine wl_read rfl rfl rfl (yl_fieldB rfl rfl Try.underlying58 rfl (by kernel_rfl) rfl) ?_
      refine wl_read rfl rfl rfl (yl_load rfl rfl Try.underlying3 rfl (CellAt.bk 3 rfl rfl)) ?_
      refine wl_read rfl rfl rfl (yl_add rfl rfl rfl (w64 (by omega) (by omega))) ?_
      refine wl_read rfl rfl rfl (yl_nilCheck rfl rfl) ?_
      refine wl_read rfl rfl rfl (yl_fieldB rfl rfl Try.underlying58 rfl (by kernel_rfl) rfl) ?_
      refine wl_store rfl rfl (es_at3 (es_store 3 rfl rfl rfl rfl (by kernel_rfl) rfl rfl)) ?_
      refine wl_nil ?_
      refine at_keep (Keep.cons 0 rfl (Keep.cons 1 rfl (Keep.cons 2 rfl (Keep.cons 3 rfl (Keep.cons 8 rfl (Keep.cons 35 rfl (Keep.cons 41 rfl Keep.nil))))))) ?_
      refine at_seq ?_
      refine at_region ?_
      refine wl_read rfl rfl rfl (yl_assign rfl rfl) ?_
      refine wl_nil ?_
      refine at_keep (Keep.cons 0 rfl (Keep.cons 1 rfl (Keep.cons 2 rfl (Keep.cons 3 rfl (Keep.cons 8 rfl (Keep.cons 35 rfl (Keep.cons 41 rfl Keep.nil))))))) ?_
      refine at_retH (fun _ hw => (Chn.closes (ms := ms ++ [(⟨f, t, A1, c1, bs⟩ : Msg)]) (k := { k with sent := k.sent + 1 }) hw.front1.front2.front3.drop3).front1) Try.func13 (res1 rfl rfl) ?_
      exact ⟨A1, c1, rfl, rfl⟩
theorem rsend_bad (ms : List Msg) (k : Cts) (g : Nat) (b : World) (H : List Asr) (f t : Int) (bs : List UInt8) (A0 : Option Addr) (c0 : Nat) (hs : ¬ okS f t bs) : Fn Try.prog 27 [.pointer (some ⟨g, 0, none⟩), .int .i64 f, .int .i64 t, .slice A0 bs.length c0] b (Chn 42 g ms k :: H) (fun v H' => v = .int .i64 1 ∧ Chn 42 g ms k :: H = H') := by
  unfold okS at hs
  refine fn_of_at (by kernel_rfl) Try.func27 rfl Try.ntmps27 rfl rfl ?_
  refine at_seq ?_
  refine at_region ?_
  refine wl_read rfl rfl rfl (yl_assign rfl rfl) ?_
  refine wl_nil ?_
  refine at_keep (Keep.cons 0 rfl (Keep.cons 1 rfl (Keep.cons 2 rfl (Keep.cons 3 rfl (Keep.cons 8 rfl Keep.nil))))) ?_
  refine at_seq ?_
  refine at_seq ?_
  refine at_region ?_
  refine wl_read rfl rfl rfl (yl_move rfl rfl) ?_
  refine wl_split rfl rfl rfl (yp_lss rfl rfl rfl) ?_ ?_
  · intro h1_1
    refine wl_read rfl rfl rfl (yl_move rfl rfl) ?_
    refine wl_skip rfl rfl rfl ?_
    refine wl_skip rfl rfl rfl ?_
    refine wl_read rfl rfl rfl (yl_pickT rfl rfl rfl) ?_
    refine wl_read rfl rfl rfl (yl_move rfl rfl) ?_
    refine wl_skip rfl rfl rfl ?_
    refine wl_skip rfl rfl rfl ?_
    refine wl_read rfl rfl rfl (yl_pickT rfl rfl rfl) ?_
    refine wl_read rfl rfl rfl (yl_move rfl rfl) ?_
    refine wl_skip rfl rfl rfl ?_
    refine wl_skip rfl rfl rfl ?_
    refine wl_read rfl rfl rfl (yl_pickT rfl rfl rfl) ?_
    refine wl_read rfl rfl rfl (yl_move rfl rfl) ?_
    refine wl_skip rfl rfl rfl ?_
    refine wl_skip rfl rfl rfl ?_
    refine wl_skip rfl rfl rfl ?_
    refine wl_read rfl rfl rfl (yl_pickT rfl rfl rfl) ?_
    refine wl_read rfl rfl rfl (yl_move rfl rfl) ?_
    refine wl_skip rfl rfl rfl ?_
    refine wl_skip rfl rfl rfl ?_
    refine wl_skip rfl rfl rfl ?_
    refine wl_read rfl rfl rfl (yl_pickT rfl rfl rfl) ?_
    refine wl_read rfl rfl rfl (yl_move rfl rfl) ?_
    refine wl_skip rfl rfl rfl ?_
    refine wl_skip rfl rfl rfl ?_
    refine wl_skip rfl rfl rfl ?_
    refine wl_read rfl rfl rfl (yl_pickT rfl rfl rfl) ?_
    refine wl_nil ?_
    refine at_keep (Keep.cons 0 rfl (Keep.cons 1 rfl (Keep.cons 2 rfl (Keep.cons 3 rfl (Keep.cons 8 rfl (Keep.cons 37 rfl Keep.nil)))))) ?_
    refine at_true rfl ?_
    refine at_seq ?_
    refine at_region ?_
    refine wl_read rfl rfl rfl (yl_assign rfl rfl) ?_
    refine wl_nil ?_
    refine at_keep (Keep.cons 0 rfl (Keep.cons 1 rfl (Keep.cons 2 rfl (Keep.cons 3 rfl (Keep.cons 8 rfl (Keep.cons 37 rfl Keep.nil)))))) ?_
    refine at_ret Try.func27 (res1 rfl rfl) ?_
    exact ⟨rfl, rfl⟩
  · intro h1_1
    refine wl_read rfl rfl rfl (yl_move rfl rfl) ?_
    refine wl_read rfl rfl rfl (yl_move rfl rfl) ?_
    refine wl_split rfl rfl rfl (yp_geq rfl rfl rfl) ?_ ?_
    · intro h1_4
      refine wl_read rfl rfl rfl (yl_pickF rfl rfl rfl) ?_
      refine wl_read rfl rfl rfl (yl_move rfl rfl) ?_
      refine wl_skip rfl rfl rfl ?_
      refine wl_skip rfl rfl rfl ?_
      refine wl_read rfl rfl rfl (yl_pickT rfl rfl rfl) ?_
      refine wl_read rfl rfl rfl (yl_move rfl rfl) ?_
      refine wl_skip rfl rfl rfl ?_
      refine wl_skip rfl rfl rfl ?_
      refine wl_read rfl rfl rfl (yl_pickT rfl rfl rfl) ?_
      refine wl_read rfl rfl rfl (yl_move rfl rfl) ?_
      refine wl_skip rfl rfl rfl ?_
      refine wl_skip rfl rfl rfl ?_
      refine wl_skip rfl rfl rfl ?_
      refine wl_read rfl rfl rfl (yl_pickT rfl rfl rfl) ?_
      refine wl_read rfl rfl rfl (yl_move rfl rfl) ?_
      refine wl_skip rfl rfl rfl ?_
      refine wl_skip rfl rfl rfl ?_
      refine wl_skip rfl rfl rfl ?_
      refine wl_read rfl rfl rfl (yl_pickT rfl rfl rfl) ?_
      refine wl_read rfl rfl rfl (yl_move rfl rfl) ?_
      refine wl_skip rfl rfl rfl ?_
      refine wl_skip rfl rfl rfl ?_
      refine wl_skip rfl rfl rfl ?_
      refine wl_read rfl rfl rfl (yl_pickT rfl rfl rfl) ?_
      refine wl_nil ?_
      refine at_keep (Keep.cons 0 rfl (Keep.cons 1 rfl (Keep.cons 2 rfl (Keep.cons 3 rfl (Keep.cons 8 rfl (Keep.cons 37 rfl Keep.nil)))))) ?_
      refine at_true rfl ?_
      refine at_seq ?_
      refine at_region ?_
      refine wl_read rfl rfl rfl (yl_assign rfl rfl) ?_
      refine wl_nil ?_
      refine at_keep (Keep.cons 0 rfl (Keep.cons 1 rfl (Keep.cons 2 rfl (Keep.cons 3 rfl (Keep.cons 8 rfl (Keep.cons 37 rfl Keep.nil)))))) ?_
      refine at_ret Try.func27 (res1 rfl rfl) ?_
      exact ⟨rfl, rfl⟩
    · intro h1_4
      refine wl_read rfl rfl rfl (yl_pickF rfl rfl rfl) ?_
      refine wl_read rfl rfl rfl (yl_move rfl rfl) ?_
      refine wl_read rfl rfl rfl (yl_move rfl rfl) ?_
      refine wl_split rfl rfl rfl (yp_lss rfl rfl rfl) ?_ ?_
      · intro h1_8
        refine wl_read rfl rfl rfl (yl_pickF rfl rfl rfl) ?_
        refine wl_read rfl rfl rfl (yl_move rfl rfl) ?_
        refine wl_skip rfl rfl rfl ?_
        refine wl_skip rfl rfl rfl ?_
        refine wl_read rfl rfl rfl (yl_pickT rfl rfl rfl) ?_
        refine wl_read rfl rfl rfl (yl_move rfl rfl) ?_
        refine wl_skip rfl rfl rfl ?_
        refine wl_skip rfl rfl rfl ?_
        refine wl_skip rfl rfl rfl ?_
        refine wl_read rfl rfl rfl (yl_pickT rfl rfl rfl) ?_
        refine wl_read rfl rfl rfl (yl_move rfl rfl) ?_
        refine wl_skip rfl rfl rfl ?_
        refine wl_skip rfl rfl rfl ?_
        refine wl_skip rfl rfl rfl ?_
        refine wl_read rfl rfl rfl (yl_pickT rfl rfl rfl) ?_
        refine wl_read rfl rfl rfl (yl_move rfl rfl) ?_
        refine wl_skip rfl rfl rfl ?_
        refine wl_skip rfl rfl rfl ?_
        refine wl_skip rfl rfl rfl ?_
        refine wl_read rfl rfl rfl (yl_pickT rfl rfl rfl) ?_
        refine wl_nil ?_
        refine at_keep (Keep.cons 0 rfl (Keep.cons 1 rfl (Keep.cons 2 rfl (Keep.cons 3 rfl (Keep.cons 8 rfl (Keep.cons 37 rfl Keep.nil)))))) ?_
        refine at_true rfl ?_
        refine at_seq ?_
        refine at_region ?_
        refine wl_read rfl rfl rfl (yl_assign rfl rfl) ?_
        refine wl_nil ?_
        refine at_keep (Keep.cons 0 rfl (Keep.cons 1 rfl (Keep.cons 2 rfl (Keep.cons 3 rfl (Keep.cons 8 rfl (Keep.cons 37 rfl Keep.nil)))))) ?_
        refine at_ret Try.func27 (res1 rfl rfl) ?_
        exact ⟨rfl, rfl⟩
      · intro h1_8
        refine wl_read rfl rfl rfl (yl_pickF rfl rfl rfl) ?_
        refine wl_read rfl rfl rfl (yl_move rfl rfl) ?_
        refine wl_read rfl rfl rfl (yl_move rfl rfl) ?_
        refine wl_split rfl rfl rfl (yp_geq rfl rfl rfl) ?_ ?_
        · intro h1_12
          refine wl_read rfl rfl rfl (yl_pickF rfl rfl rfl) ?_
          refine wl_read rfl rfl rfl (yl_move rfl rfl) ?_
          refine wl_skip rfl rfl rfl ?_
          refine wl_skip rfl rfl rfl ?_
          refine wl_skip rfl rfl rfl ?_
          refine wl_read rfl rfl rfl (yl_pickT rfl rfl rfl) ?_
          refine wl_read rfl rfl rfl (yl_move rfl rfl) ?_
          refine wl_skip rfl rfl rfl ?_
          refine wl_skip rfl rfl rfl ?_
          refine wl_skip rfl rfl rfl ?_
          refine wl_read rfl rfl rfl (yl_pickT rfl rfl rfl) ?_
          refine wl_read rfl rfl rfl (yl_move rfl rfl) ?_
          refine wl_skip rfl rfl rfl ?_
          refine wl_skip rfl rfl rfl ?_
          refine wl_skip rfl rfl rfl ?_
          refine wl_read rfl rfl rfl (yl_pickT rfl rfl rfl) ?_
          refine wl_nil ?_
          refine at_keep (Keep.cons 0 rfl (Keep.cons 1 rfl (Keep.cons 2 rfl (Keep.cons 3 rfl (Keep.cons 8 rfl (Keep.cons 37 rfl Keep.nil)))))) ?_
          refine at_true rfl ?_
          refine at_seq ?_
          refine at_region ?_
          refine wl_read rfl rfl rfl (yl_assign rfl rfl) ?_
          refine wl_nil ?_
          refine at_keep (Keep.cons 0 rfl (Keep.cons 1 rfl (Keep.cons 2 rfl (Keep.cons 3 rfl (Keep.cons 8 rfl (Keep.cons 37 rfl Keep.nil)))))) ?_
          refine at_ret Try.func27 (res1 rfl rfl) ?_
          exact ⟨rfl, rfl⟩
        · intro h1_12
          refine wl_read rfl rfl rfl (yl_pickF rfl rfl rfl) ?_
          refine wl_read rfl rfl rfl (yl_move rfl rfl) ?_
          refine wl_read rfl rfl rfl (yl_move rfl rfl) ?_
          refine wl_read rfl rfl rfl (yl_move rfl rfl) ?_
          refine wl_split rfl rfl rfl (yp_eql rfl rfl rfl) ?_ ?_
          · intro h1_17
            refine wl_read rfl rfl rfl (yl_pickF rfl rfl rfl) ?_
            refine wl_read rfl rfl rfl (yl_move rfl rfl) ?_
            refine wl_skip rfl rfl rfl ?_
            refine wl_skip rfl rfl rfl ?_
            refine wl_skip rfl rfl rfl ?_
            refine wl_read rfl rfl rfl (yl_pickT rfl rfl rfl) ?_
            refine wl_read rfl rfl rfl (yl_move rfl rfl) ?_
            refine wl_skip rfl rfl rfl ?_
            refine wl_skip rfl rfl rfl ?_
            refine wl_skip rfl rfl rfl ?_
            refine wl_read rfl rfl rfl (yl_pickT rfl rfl rfl) ?_
            refine wl_nil ?_
            refine at_keep (Keep.cons 0 rfl (Keep.cons 1 rfl (Keep.cons 2 rfl (Keep.cons 3 rfl (Keep.cons 8 rfl (Keep.cons 37 rfl Keep.nil)))))) ?_
            refine at_true rfl ?_
            refine at_seq ?_
            refine at_region ?_
            refine wl_read rfl rfl rfl (yl_assign rfl rfl) ?_
            refine wl_nil ?_
            refine at_keep (Keep.cons 0 rfl (Keep.cons 1 rfl (Keep.cons 2 rfl (Keep.cons 3 rfl (Keep.cons 8 rfl (Keep.cons 37 rfl Keep.nil)))))) ?_
            refine at_ret Try.func27 (res1 rfl rfl) ?_
            exact ⟨rfl, rfl⟩
          · intro h1_17
            refine wl_read rfl rfl rfl (yl_pickF rfl rfl rfl) ?_
            refine wl_read rfl rfl rfl (yl_move rfl rfl) ?_
            refine wl_read rfl rfl rfl (yl_move rfl rfl) ?_
            refine wl_read rfl rfl rfl (yl_len rfl rfl Try.underlying27) ?_
            refine wl_split rfl rfl rfl (yp_eql rfl rfl rfl) ?_ ?_
            · intro h1_22
              refine wl_read rfl rfl rfl (yl_pickF rfl rfl rfl) ?_
              refine wl_read rfl rfl rfl (yl_move rfl rfl) ?_
              refine wl_skip rfl rfl rfl ?_
              refine wl_skip rfl rfl rfl ?_
              refine wl_skip rfl rfl rfl ?_
              refine wl_read rfl rfl rfl (yl_pickT rfl rfl rfl) ?_
              refine wl_nil ?_
              refine at_keep (Keep.cons 0 rfl (Keep.cons 1 rfl (Keep.cons 2 rfl (Keep.cons 3 rfl (Keep.cons 8 rfl (Keep.cons 37 rfl Keep.nil)))))) ?_
              refine at_true rfl ?_
              refine at_seq ?_
              refine at_region ?_
              refine wl_read rfl rfl rfl (yl_assign rfl rfl) ?_
              refine wl_nil ?_
              refine at_keep (Keep.cons 0 rfl (Keep.cons 1 rfl (Keep.cons 2 rfl (Keep.cons 3 rfl (Keep.cons 8 rfl (Keep.cons 37 rfl Keep.nil)))))) ?_
              refine at_ret Try.func27 (res1 rfl rfl) ?_
              exact ⟨rfl, rfl⟩
            · intro h1_22
              refine wl_read rfl rfl rfl (yl_pickF rfl rfl rfl) ?_
              refine wl_read rfl rfl rfl (yl_move rfl rfl) ?_
              refine wl_read rfl rfl rfl (yl_move rfl rfl) ?_
              refine wl_read rfl rfl rfl (yl_len rfl rfl Try.underlying27) ?_
              refine wl_split rfl rfl rfl (yp_gtr rfl rfl rfl) ?_ ?_
              · intro h1_27
                refine wl_read rfl rfl rfl (yl_pickF rfl rfl rfl) ?_
                refine wl_nil ?_
                refine at_keep (Keep.cons 0 rfl (Keep.cons 1 rfl (Keep.cons 2 rfl (Keep.cons 3 rfl (Keep.cons 8 rfl (Keep.cons 37 rfl Keep.nil)))))) ?_
                refine at_true rfl ?_
                refine at_seq ?_
                refine at_region ?_
                refine wl_read rfl rfl rfl (yl_assign rfl rfl) ?_
                refine wl_nil ?_
                refine at_keep (Keep.cons 0 rfl (Keep.cons 1 rfl (Keep.cons 2 rfl (Keep.cons 3 rfl (Keep.cons 8 rfl (Keep.cons 37 rfl Keep.nil)))))) ?_
                refine at_ret Try.func27 (res1 rfl rfl) ?_
                exact ⟨rfl, rfl⟩
              · intro h1_27
                exact absurd (by omega) hs
theorem rsend_full (ms : List Msg) (k : Cts) (g : Nat) (b : World) (H : List Asr) (f t : Int) (bs : List UInt8) (A0 : Option Addr) (c0 : Nat) (hs : okS f t bs) (hm : 500 ≤ ms.length) : Fn Try.prog 27 [.pointer (some ⟨g, 0, none⟩), .int .i64 f, .int .i64 t, .slice A0 bs.length c0] b (Chn 42 g ms k :: H) (fun v H' => v = .int .i64 7 ∧ Chn 42 g ms k :: H = H') := by
  unfold okS at hs
  refine Chn.fn fun A c => ?_
  refine fn_of_at (by kernel_rfl) Try.func27 rfl Try.ntmps27 rfl rfl ?_
  refine at_seq ?_
  refine at_region ?_
  refine wl_read rfl rfl rfl (yl_assign rfl rfl) ?_
  refine wl_nil ?_
  refine at_keep (Keep.cons 0 rfl (Keep.cons 1 rfl (Keep.cons 2 rfl (Keep.cons 3 rfl (Keep.cons 8 rfl Keep.nil))))) ?_
  refine at_seq ?_
  refine at_seq ?_
  refine at_region ?_
  refine wl_read rfl rfl rfl (yl_move rfl rfl) ?_
  refine wl_read rfl rfl rfl ((yp_lss rfl rfl rfl).2 (by omega)) ?_
  refine wl_read rfl rfl rfl (yl_move rfl rfl) ?_
  refine wl_read rfl rfl rfl (yl_move rfl rfl) ?_
  refine wl_read rfl rfl rfl ((yp_geq rfl rfl rfl).2 (by omega)) ?_
  refine wl_read rfl rfl rfl (yl_pickF rfl rfl rfl) ?_
  refine wl_read rfl rfl rfl (yl_move rfl rfl) ?_
  refine wl_read rfl rfl rfl (yl_move rfl rfl) ?_
  refine wl_read rfl rfl rfl ((yp_lss rfl rfl rfl).2 (by omega)) ?_
  refine wl_read rfl rfl rfl (yl_pickF rfl rfl rfl) ?_
  refine wl_read rfl rfl rfl (yl_move rfl rfl) ?_
  refine wl_read rfl rfl rfl (yl_move rfl rfl) ?_
  refine wl_read rfl rfl rfl ((yp_geq rfl rfl rfl).2 (by omega)) ?_
  refine wl_read rfl rfl rfl (yl_pickF rfl rfl rfl) ?_
  refine wl_read rfl rfl rfl (yl_move rfl rfl) ?_
  refine wl_read rfl rfl rfl (yl_move rfl rfl) ?_
  refine wl_read rfl rfl rfl (yl_move rfl rfl) ?_
  refine wl_read rfl rfl rfl ((yp_eql rfl rfl rfl).2 (by omega)) ?_
  refine wl_read rfl rfl rfl (yl_pickF rfl rfl rfl) ?_
  refine wl_read rfl rfl rfl (yl_move rfl rfl) ?_
  refine wl_read rfl rfl rfl (yl_move rfl rfl) ?_
  refine wl_read rfl rfl rfl (yl_len rfl rfl Try.underlying27) ?_
  refine wl_read rfl rfl rfl ((yp_eql rfl rfl rfl).2 (by omega)) ?_
  refine wl_read rfl rfl rfl (yl_pickF rfl rfl rfl) ?_
  refine wl_read rfl rfl rfl (yl_move rfl rfl) ?_
  refine wl_read rfl rfl rfl (yl_move rfl rfl) ?_
  refine wl_read rfl rfl rfl (yl_len rfl rfl Try.underlying27) ?_
  refine wl_read rfl rfl rfl ((yp_gtr rfl rfl rfl).2 (by omega)) ?_
  refine wl_read rfl rfl rfl (yl_pickF rfl rfl rfl) ?_
  refine wl_nil ?_
  refine at_keep (Keep.cons 0 rfl (Keep.cons 1 rfl (Keep.cons 2 rfl (Keep.cons 3 rfl (Keep.cons 8 rfl (Keep.cons 37 rfl Keep.nil)))))) ?_
  refine at_false rfl ?_
  refine at_skip ?_
  refine at_seq ?_
  refine at_seq ?_
  refine at_region ?_
  refine wl_read rfl rfl rfl (yl_move rfl rfl) ?_
  refine wl_read rfl rfl rfl (yl_nilCheck rfl rfl) ?_
  refine wl_read rfl rfl rfl (yl_fieldB rfl rfl Try.underlying42 rfl (by kernel_rfl) rfl) ?_
  refine wl_read rfl rfl rfl (yl_load rfl rfl Try.underlying40 rfl (CellAt.bk 0 rfl rfl)) ?_
  refine wl_read rfl rfl rfl (yl_len rfl rfl Try.underlying40) ?_
  refine wl_read rfl rfl rfl ((yp_geq rfl rfl rfl).1 (by omega)) ?_
  refine wl_nil ?_
  refine at_keep (Keep.cons 0 rfl (Keep.cons 1 rfl (Keep.cons 2 rfl (Keep.cons 3 rfl (Keep.cons 8 rfl (Keep.cons 37 rfl (Keep.cons 43 rfl Keep.nil))))))) ?_
  refine at_true rfl ?_
  refine at_seq ?_
  refine at_region ?_
  refine wl_read rfl rfl rfl (yl_assign rfl rfl) ?_
  refine wl_nil ?_
  refine at_keep (Keep.cons 0 rfl (Keep.cons 1 rfl (Keep.cons 2 rfl (Keep.cons 3 rfl (Keep.cons 8 rfl (Keep.cons 37 rfl (Keep.cons 43 rfl Keep.nil))))))) ?_
  refine at_retH (fun _ hw => (Chn.closes  hw.front1.front1)) Try.func27 (res1 rfl rfl) ?_
  exact ⟨rfl, rfl⟩
theorem rsend_fn (ms : List Msg) (k : Cts) (g : Nat) (b : World) (H : List Asr) (f t : Int) (bs : List UInt8) (A0 : Option Addr) (c0 : Nat) (hs : okS f t bs) (hm : ms.length < 500) (hk : 0 ≤ k.sent ∧ k.sent ≤ 1000000) (hR : Rd H A0 bs) : Fn Try.prog 27 [.pointer (some ⟨g, 0, none⟩), .int .i64 f, .int .i64 t, .slice A0 bs.length c0] b (Chn 42 g ms k :: H)
    (fun v H' => ∃ A' c', v = .int .i64 0 ∧ H' = Sl A' c' 5 bs :: Chn 42 g (ms ++ [⟨f, t, A', c', bs⟩]) { k with sent := k.sent + 1 } :: H) := by
  unfold okS at hs
  refine Chn.fn fun A c => ?_
  refine fn_of_at (by kernel_rfl) Try.func27 rfl Try.ntmps27 rfl rfl ?_
  refine at_seq ?_
  refine at_region ?_
  refine wl_read rfl rfl rfl (yl_assign rfl rfl) ?_
  refine wl_nil ?_
  refine at_keep (Keep.cons 0 rfl (Keep.cons 1 rfl (Keep.cons 2 rfl (Keep.cons 3 rfl (Keep.cons 8 rfl Keep.nil))))) ?_
  refine at_seq ?_
  refine at_seq ?_
  refine at_region ?_
  refine wl_read rfl rfl rfl (yl_move rfl rfl) ?_
  refine wl_read rfl rfl rfl ((yp_lss rfl rfl rfl).2 (by omega)) ?_
  refine wl_read rfl rfl rfl (yl_move rfl rfl) ?_
  refine wl_read rfl rfl rfl (yl_move rfl rfl) ?_
  refine wl_read rfl rfl rfl ((yp_geq rfl rfl rfl).2 (by omega)) ?_
  refine wl_read rfl rfl rfl (yl_pickF rfl rfl rfl) ?_
  refine wl_read rfl rfl rfl (yl_move rfl rfl) ?_
  refine wl_read rfl rfl rfl (yl_move rfl rfl) ?_
  refine wl_read rfl rfl rfl ((yp_lss rfl rfl rfl).2 (by omega)) ?_
  refine wl_read rfl rfl rfl (yl_pickF rfl rfl rfl) ?_
  refine wl_read rfl rfl rfl (yl_move rfl rfl) ?_
  refine wl_read rfl rfl rfl (yl_move rfl rfl) ?_
  refine wl_read rfl rfl rfl ((yp_geq rfl rfl rfl).2 (by omega)) ?_
  refine wl_read rfl rfl rfl (yl_pickF rfl rfl rfl) ?_
  refine wl_read rfl rfl rfl (yl_move rfl rfl) ?_
  refine wl_read rfl rfl rfl (yl_move rfl rfl) ?_
  refine wl_read rfl rfl rfl (yl_move rfl rfl) ?_
  refine wl_read rfl rfl rfl ((yp_eql rfl rfl rfl).2 (by omega)) ?_
  refine wl_read rfl rfl rfl (yl_pickF rfl rfl rfl) ?_
  refine wl_read rfl rfl rfl (yl_move rfl rfl) ?_
  refine wl_read rfl rfl rfl (yl_move rfl rfl) ?_
  refine wl_read rfl rfl rfl (yl_len rfl rfl Try.underlying27) ?_
  refine wl_read rfl rfl rfl ((yp_eql rfl rfl rfl).2 (by omega)) ?_
  refine wl_read rfl rfl rfl (yl_pickF rfl rfl rfl) ?_
  refine wl_read rfl rfl rfl (yl_move rfl rfl) ?_
  refine wl_read rfl rfl rfl (yl_move rfl rfl) ?_
  refine wl_read rfl rfl rfl (yl_len rfl rfl Try.underlying27) ?_
  refine wl_read rfl rfl rfl ((yp_gtr rfl rfl rfl).2 (by omega)) ?_
  refine wl_read rfl rfl rfl (yl_pickF rfl rfl rfl) ?_
  refine wl_nil ?_
  refine at_keep (Keep.cons 0 rfl (Keep.cons 1 rfl (Keep.cons 2 rfl (Keep.cons 3 rfl (Keep.cons 8 rfl (Keep.cons 37 rfl Keep.nil)))))) ?_
  refine at_false rfl ?_
  refine at_skip ?_
  refine at_seq ?_
  refine at_seq ?_
  refine at_region ?_
  refine wl_read rfl rfl rfl (yl_move rfl rfl) ?_
  refine wl_read rfl rfl rfl (yl_nilCheck rfl rfl) ?_
  refine wl_read rfl rfl rfl (yl_fieldB rfl rfl Try.underlying42 rfl (by kernel_rfl) rfl) ?_
  refine wl_read rfl rfl rfl (yl_load rfl rfl Try.underlying40 rfl (CellAt.bk 0 rfl rfl)) ?_
  refine wl_read rfl rfl rfl (yl_len rfl rfl Try.underlying40) ?_
  refine wl_read rfl rfl rfl ((yp_geq rfl rfl rfl).2 (by omega)) ?_
  refine wl_nil ?_
  refine at_keep (Keep.cons 0 rfl (Keep.cons 1 rfl (Keep.cons 2 rfl (Keep.cons 3 rfl (Keep.cons 8 rfl (Keep.cons 37 rfl (Keep.cons 43 rfl Keep.nil))))))) ?_
  refine at_false rfl ?_
  refine at_skip ?_
  refine at_seq ?_
  refine at_region ?_
  refine wl_read rfl rfl rfl (yl_move rfl rfl) ?_
  refine wl_read rfl rfl rfl (yl_move rfl rfl) ?_
  refine wl_read rfl rfl rfl (yl_nilCheck rfl rfl) ?_
  refine wl_read rfl rfl rfl (yl_fieldB rfl rfl Try.underlying42 rfl (by kernel_rfl) rfl) ?_
  refine wl_read rfl rfl rfl (yl_load rfl rfl Try.underlying40 rfl (CellAt.bk 0 rfl rfl)) ?_
  refine wl_eff rfl rfl rfl (ef_append0 (ys := ms) rfl rfl rfl (Rd.of_sl 1 rfl) Try.underlying40 info33 rfl rfl (by simp only [maxLen]; omega) (by omega)) ?_
  rintro _ _ ⟨A3, c3, rfl, rfl⟩
  refine wl_read rfl rfl rfl (yl_move rfl rfl) ?_
  refine wl_read rfl rfl rfl (yl_move rfl rfl) ?_
  refine wl_read rfl rfl rfl (yl_move rfl rfl) ?_
  refine wl_read rfl rfl rfl (yl_build (cs := [.int .i64 f, .int .i64 t, .slice A0 bs.length c0]) rfl rfl (fun _ => by kernel_rfl)) ?_
  refine wl_call rfl rfl rfl (en_call rfl rfl) (copied_fn ⟨f, t, A0, c0, bs⟩ _ _ (((hR.cons _).cons _).cons _) (by show bs.length ≤ 1000000; omega)) ?_
  rintro _ _ ⟨A1, c1, rfl, rfl⟩
  refine wl_eff rfl rfl rfl (ef_buildSlice (e := 33) [(⟨f, t, A1, c1, bs⟩ : Msg)] rfl rfl (fun _ => by kernel_rfl) rfl rfl) ?_
  rintro _ _ ⟨T5_11, rfl, rfl⟩
  refine wl_eff rfl rfl rfl (ef_append (ys := [(⟨f, t, A1, c1, bs⟩ : Msg)]) 2 rfl rfl rfl rfl (Rd.of_sl 0 rfl) Try.underlying40 info33 rfl rfl (by simp only [List.length_singleton, maxLen]; omega) (by simp only [List.length_singleton]; omega)) ?_
  rintro _ _ ⟨A2, c2, rfl, hH⟩
  simp only [List.set_cons_succ, List.set_cons_zero] at hH; subst hH
  refine wl_read rfl rfl rfl (yl_nilCheck rfl rfl) ?_
  refine wl_read rfl rfl rfl (yl_fieldB rfl rfl Try.underlying42 rfl (by kernel_rfl) rfl) ?_
  refine wl_store rfl rfl (es_at3 (es_store 3 rfl rfl rfl rfl (by kernel_rfl) rfl rfl)) ?_
  refine wl_nil ?_
  refine at_keep (Keep.cons 0 rfl (Keep.cons 1 rfl (Keep.cons 2 rfl (Keep.cons 3 rfl (Keep.cons 8 rfl (Keep.cons 37 rfl (Keep.cons 43 rfl Keep.nil))))))) ?_
  refine at_seq ?_
  refine at_region ?_
  refine wl_read rfl rfl rfl (yl_move rfl rfl) ?_
  refine wl_read rfl rfl rfl (yl_nilCheck rfl rfl) ?_
  refine wl_read rfl rfl rfl (yl_fieldB rfl rfl Try.underlying42 rfl (by kernel_rfl) rfl) ?_
  refine wl_read rfl rfl rfl (yl_load rfl rfl Try.underlying3 rfl (CellAt.bk 3 rfl rfl)) ?_
  refine wl_read rfl rfl rfl (yl_add rfl rfl rfl (w64 (by omega) (by omega))) ?_
  refine wl_read rfl rfl rfl (yl_nilCheck rfl rfl) ?_
  refine wl_read rfl rfl rfl (yl_fieldB rfl rfl Try.underlying42 rfl (by kernel_rfl) rfl) ?_
  refine wl_store rfl rfl (es_at3 (es_store 3 rfl rfl rfl rfl (by kernel_rfl) rfl rfl)) ?_
  refine wl_nil ?_
  refine at_keep (Keep.cons 0 rfl (Keep.cons 1 rfl (Keep.cons 2 rfl (Keep.cons 3 rfl (Keep.cons 8 rfl (Keep.cons 37 rfl (Keep.cons 43 rfl Keep.nil))))))) ?_
  refine at_seq ?_
  refine at_region ?_
  refine wl_read rfl rfl rfl (yl_assign rfl rfl) ?_
  refine wl_nil ?_
  refine at_keep (Keep.cons 0 rfl (Keep.cons 1 rfl (Keep.cons 2 rfl (Keep.cons 3 rfl (Keep.cons 8 rfl (Keep.cons 37 rfl (Keep.cons 43 rfl Keep.nil))))))) ?_
  refine at_retH (fun _ hw => (Chn.closes (ms := ms ++ [(⟨f, t, A1, c1, bs⟩ : Msg)]) (k := { k with sent := k.sent + 1 }) hw.front1.front2.front3.drop3.drop3).front1) Try.func27 (res1 rfl rfl) ?_
  exact ⟨A1, c1, rfl, rfl⟩
theorem send_nil (f t : Int) (bs : List UInt8) (A0 : Option Addr) (c0 : Nat) (b : World) (H : List Asr) : Fn Try.prog 13 [.pointer none, .int .i64 f, .int .i64 t, .slice A0 bs.length c0] b H (fun v H' => v = .int .i64 1 ∧ H = H') := by
  refine fn_of_at (by kernel_rfl) Try.func13 rfl Try.ntmps13 rfl rfl ?_
  refine at_seq ?_
  refine at_region ?_
  refine wl_read rfl rfl rfl (yl_assign rfl rfl) ?_
  refine wl_nil ?_
  refine at_keep (Keep.cons 0 rfl (Keep.cons 1 rfl (Keep.cons 2 rfl (Keep.cons 3 rfl (Keep.cons 8 rfl Keep.nil))))) ?_
  refine at_seq ?_
  refine at_seq ?_
  refine at_region ?_
  refine wl_read rfl rfl rfl (yl_move rfl rfl) ?_
  refine wl_read rfl rfl rfl (yl_eqPtr rfl rfl rfl (by kernel_rfl) rfl) ?_
  refine wl_read rfl rfl rfl (yl_move rfl rfl) ?_
  refine wl_skip rfl rfl rfl ?_
  refine wl_skip rfl rfl rfl ?_
  refine wl_skip rfl rfl rfl ?_
  refine wl_read rfl rfl rfl (yl_pickT rfl rfl rfl) ?_
  refine wl_read rfl rfl rfl (yl_move rfl rfl) ?_
  refine wl_skip rfl rfl rfl ?_
  refine wl_skip rfl rfl rfl ?_
  refine wl_skip rfl rfl rfl ?_
  refine wl_read rfl rfl rfl (yl_pickT rfl rfl rfl) ?_
  refine wl_read rfl rfl rfl (yl_move rfl rfl) ?_
  refine wl_skip rfl rfl rfl ?_
  refine wl_skip rfl rfl rfl ?_
  refine wl_skip rfl rfl rfl ?_
  refine wl_read rfl rfl rfl (yl_pickT rfl rfl rfl) ?_
  refine wl_read rfl rfl rfl (yl_move rfl rfl) ?_
  refine wl_skip rfl rfl rfl ?_
  refine wl_skip rfl rfl rfl ?_
  refine wl_skip rfl rfl rfl ?_
  refine wl_read rfl rfl rfl (yl_pickT rfl rfl rfl) ?_
  refine wl_read rfl rfl rfl (yl_move rfl rfl) ?_
  refine wl_skip rfl rfl rfl ?_
  refine wl_skip rfl rfl rfl ?_
  refine wl_skip rfl rfl rfl ?_
  refine wl_read rfl rfl rfl (yl_pickT rfl rfl rfl) ?_
  refine wl_nil ?_
  refine at_keep (Keep.cons 0 rfl (Keep.cons 1 rfl (Keep.cons 2 rfl (Keep.cons 3 rfl (Keep.cons 8 rfl (Keep.cons 35 rfl Keep.nil)))))) ?_
  refine at_true rfl ?_
  refine at_seq ?_
  refine at_region ?_
  refine wl_read rfl rfl rfl (yl_assign rfl rfl) ?_
  refine wl_nil ?_
  refine at_keep (Keep.cons 0 rfl (Keep.cons 1 rfl (Keep.cons 2 rfl (Keep.cons 3 rfl (Keep.cons 8 rfl (Keep.cons 35 rfl Keep.nil)))))) ?_
  refine at_ret Try.func13 (res1 rfl rfl) ?_
  exact ⟨rfl, rfl⟩
theorem fork_fn (ms : List Msg) (k : Cts) (g : Nat) (b : World) (H : List Asr) (hl : ms.length ≤ 1000) : Fn Try.prog 25 [.pointer (some ⟨g, 0, none⟩)] b (Chn 58 g ms k :: H) (fun v H' => ∃ g', v = .pointer (some ⟨g', 0, none⟩) ∧ H' = Chn 58 g' ms k :: Chn 58 g ms k :: H) := by
  refine Chn.fn fun A c => ?_
  refine fn_of_at (by kernel_rfl) Try.func25 rfl Try.ntmps25 rfl rfl ?_
  refine at_seq ?_
  refine at_region ?_
  refine wl_read rfl rfl rfl (yl_assign rfl rfl) ?_
  refine wl_nil ?_
  refine at_keep (Keep.cons 0 rfl (Keep.cons 2 rfl Keep.nil)) ?_
  refine at_seq ?_
  refine at_seq ?_
  refine at_region ?_
  refine wl_read rfl rfl rfl (yl_move rfl rfl) ?_
  refine wl_read rfl rfl rfl (yl_eqPtr rfl rfl rfl (by kernel_rfl) rfl) ?_
  refine wl_nil ?_
  refine at_keep (Keep.cons 0 rfl (Keep.cons 2 rfl (Keep.cons 5 rfl Keep.nil))) ?_
  refine at_false rfl ?_
  refine at_skip ?_
  refine at_seq ?_
  refine at_region ?_
  refine wl_read rfl rfl rfl (yl_move rfl rfl) ?_
  refine wl_read rfl rfl rfl (yl_nilCheck rfl rfl) ?_
  refine wl_read rfl rfl rfl (yl_loadBk 0 rfl rfl rfl Try.underlying58 rfl (by kernel_rfl)) ?_
  refine wl_eff rfl rfl rfl (ef_alloc (cs := [.slice none 0 0, .int .i64 0, .int .i64 0, .int .i64 0, .int .i64 0]) (z := .agg #[.slice none 0 0, .int .i64 0, .int .i64 0, .int .i64 0, .int .i64 0]) rfl (by kernel_rfl) rfl) ?_
  rintro _ _ ⟨g3, rfl, rfl⟩
  refine wl_store rfl rfl (es_at0 (es_storeN 0 rfl rfl rfl rfl (by kernel_rfl) rfl rfl)) ?_
  refine wl_nil ?_
  refine at_keep (Keep.cons 0 rfl (Keep.cons 2 rfl (Keep.cons 3 rfl (Keep.cons 5 rfl Keep.nil)))) ?_
  refine at_seq ?_
  refine at_region ?_
  refine wl_read rfl rfl rfl (yl_move rfl rfl) ?_
  refine wl_read rfl rfl rfl (yl_nilCheck rfl rfl) ?_
  refine wl_read rfl rfl rfl (yl_fieldB rfl rfl Try.underlying58 rfl (by kernel_rfl) rfl) ?_
  refine wl_read rfl rfl rfl (yl_load rfl rfl Try.underlying40 rfl (CellAt.bk 1 rfl rfl)) ?_
  refine wl_call rfl rfl rfl (en_call rfl rfl) (cloneM_fn ms A c _ _ (Rd.of_sl 2 rfl) hl) ?_
  rintro _ _ ⟨A1, c1, rfl, rfl⟩
  refine wl_read rfl rfl rfl (yl_fieldB rfl rfl Try.underlying58 rfl (by kernel_rfl) rfl) ?_
  refine wl_store rfl rfl (es_at1 (es_store 1 rfl rfl rfl rfl (by kernel_rfl) rfl rfl)) ?_
  refine wl_nil ?_
  refine at_keep (Keep.cons 0 rfl (Keep.cons 2 rfl (Keep.cons 3 rfl (Keep.cons 5 rfl Keep.nil)))) ?_
  refine at_seq ?_
  refine at_region ?_
  refine wl_read rfl rfl rfl (yl_assign rfl rfl) ?_
  refine wl_nil ?_
  refine at_keep (Keep.cons 0 rfl (Keep.cons 2 rfl (Keep.cons 3 rfl (Keep.cons 5 rfl Keep.nil)))) ?_
  refine at_retH (fun _ hw => (Chn.closes (ms := ms) (k := k) (Chn.closes (ms := ms) (k := k) hw.front3.front3.front2.front3).down2).front1) Try.func25 (res1 rfl rfl) ?_
  exact ⟨g3, rfl, rfl⟩
theorem fork_nil (b : World) (H : List Asr) : Fn Try.prog 25 [.pointer none] b H (fun v H' => v = .pointer none ∧ H = H') := by
  refine fn_of_at (by kernel_rfl) Try.func25 rfl Try.ntmps25 rfl rfl ?_
  refine at_seq ?_
  refine at_region ?_
  refine wl_read rfl rfl rfl (yl_assign rfl rfl) ?_
  refine wl_nil ?_
  refine at_keep (Keep.cons 0 rfl (Keep.cons 2 rfl Keep.nil)) ?_
  refine at_seq ?_
  refine at_seq ?_
  refine at_region ?_
  refine wl_read rfl rfl rfl (yl_move rfl rfl) ?_
  refine wl_read rfl rfl rfl (yl_eqPtr rfl rfl rfl (by kernel_rfl) rfl) ?_
  refine wl_nil ?_
  refine at_keep (Keep.cons 0 rfl (Keep.cons 2 rfl (Keep.cons 5 rfl Keep.nil))) ?_
  refine at_true rfl ?_
  refine at_seq ?_
  refine at_region ?_
  refine wl_read rfl rfl rfl (yl_assign rfl rfl) ?_
  refine wl_nil ?_
  refine at_keep (Keep.cons 0 rfl (Keep.cons 2 rfl (Keep.cons 5 rfl Keep.nil))) ?_
  refine at_ret Try.func25 (res1 rfl rfl) ?_
  exact ⟨rfl, rfl⟩
theorem rfork_fn (ms : List Msg) (k : Cts) (pl : List (Mem UInt8)) (g : Nat) (b : World) (H : List Asr) (hl : ms.length ≤ 500) (hin : ∀ m, m ∈ ms → m.mem ∈ pl) (hsz : ∀ m, m ∈ ms → m.bs.length ≤ 1000) : Fn Try.prog 26 [.pointer (some ⟨g, 0, none⟩)] b (Chn 42 g ms k :: Pool pl :: H)
    (fun v H' => ∃ g' qs pl', v = .pointer (some ⟨g', 0, none⟩) ∧ qs.map Msg.abs = ms.map Msg.abs ∧ (∀ m, m ∈ qs → m.mem ∈ pl') ∧ (∀ m, m ∈ qs → m.bs.length ≤ 1000) ∧ (∀ m, m ∈ pl → m ∈ pl') ∧ H' = Chn 42 g' qs k :: Chn 42 g ms k :: Pool pl' :: H) := by
  refine Chn.fn fun A c => ?_
  refine fn_of_at (by kernel_rfl) Try.func26 rfl Try.ntmps26 rfl rfl ?_
  refine at_seq ?_
  refine at_region ?_
  refine wl_read rfl rfl rfl (yl_assign rfl rfl) ?_
  refine wl_nil ?_
  refine at_keep (Keep.cons 0 rfl (Keep.cons 2 rfl Keep.nil)) ?_
  refine at_seq ?_
  refine at_region ?_
  refine wl_read rfl rfl rfl (yl_move rfl rfl) ?_
  refine wl_read rfl rfl rfl (yl_nilCheck rfl rfl) ?_
  refine wl_read rfl rfl rfl (yl_loadBk 0 rfl rfl rfl Try.underlying42 rfl (by kernel_rfl)) ?_
  refine wl_eff rfl rfl rfl (ef_alloc (cs := [.slice none 0 0, .int .i64 0, .int .i64 0, .int .i64 0, .int .i64 0]) (z := .agg #[.slice none 0 0, .int .i64 0, .int .i64 0, .int .i64 0, .int .i64 0]) rfl (by kernel_rfl) rfl) ?_
  rintro _ _ ⟨g3, rfl, rfl⟩
  refine wl_store rfl rfl (es_at0 (es_storeN 0 rfl rfl rfl rfl (by kernel_rfl) rfl rfl)) ?_
  refine wl_nil ?_
  refine at_keep (Keep.cons 0 rfl (Keep.cons 2 rfl (Keep.cons 3 rfl Keep.nil))) ?_
  refine at_seq ?_
  refine at_region ?_
  refine wl_read rfl rfl rfl (yl_fieldB rfl rfl Try.underlying42 rfl (by kernel_rfl) rfl) ?_
  refine wl_store rfl rfl (es_at0 (es_store 0 rfl rfl rfl rfl (by kernel_rfl) rfl rfl)) ?_
  refine wl_nil ?_
  refine at_keep (Keep.cons 0 rfl (Keep.cons 2 rfl (Keep.cons 3 rfl Keep.nil))) ?_
  refine at_seq ?_
  refine at_seq ?_
  refine at_region ?_
  refine wl_read rfl rfl rfl (yl_assign rfl rfl) ?_
  refine wl_nil ?_
  refine at_keep (Keep.cons 0 rfl (Keep.cons 2 rfl (Keep.cons 3 rfl (Keep.cons 4 rfl Keep.nil)))) ?_
  refine at_block ?_
  refine at_keep (L' := (fun (j : Nat) (qs : List Msg) (pl1 : List (Mem UInt8)) => [(0, .pointer (some ⟨g, 0, none⟩)), (3, .pointer (some ⟨g3, 0, none⟩)), (4, .int .i64 (j : Int))]) 0 [] pl) (Keep.consEq 0 rfl rfl (Keep.consEq 3 rfl rfl (Keep.consEq 4 rfl rfl Keep.nil))) ?_
  refine at_heap (fun _ hw => Chn.closes (ms := []) (k := k) (hw.nilSl (α := Msg) 33).front1) ?_
  refine at_loop3 (fun (j : Nat) (qs : List Msg) (pl1 : List (Mem UInt8)) => j ≤ ms.length ∧ qs.map Msg.abs = (ms.take j).map Msg.abs ∧ (∀ m, m ∈ qs → m.mem ∈ pl1) ∧ (∀ m, m ∈ qs → m.bs.length ≤ 1000) ∧ (∀ m, m ∈ pl → m ∈ pl1)) (fun (j : Nat) (qs : List Msg) (pl1 : List (Mem UInt8)) => [(0, .pointer (some ⟨g, 0, none⟩)), (3, .pointer (some ⟨g3, 0, none⟩)), (4, .int .i64 (j : Int))]) (fun (j : Nat) (qs : List Msg) (pl1 : List (Mem UInt8)) => Chn 42 g3 qs k :: chB 42 g A c ms k :: Sl A c 33 ms :: Pool pl1 :: H) (fun (j : Nat) (qs : List Msg) (pl1 : List (Mem UInt8)) => ms.length - j) 0 [] pl ⟨by omega, rfl, by simp, by simp, fun _ h => h⟩ ?_
  intro j qs pl1 hI ih
  obtain ⟨hi0, hi1, hi3, hi4, hi5⟩ := hI
  refine at_seq ?_
  refine at_seq ?_
  refine at_region ?_
  refine wl_read rfl rfl rfl (yl_move rfl rfl) ?_
  refine wl_read rfl rfl rfl (yl_move rfl rfl) ?_
  refine wl_read rfl rfl rfl (yl_nilCheck rfl rfl) ?_
  refine wl_read rfl rfl rfl (yl_fieldB rfl rfl Try.underlying42 rfl (by kernel_rfl) rfl) ?_
  refine wl_read rfl rfl rfl (yl_load rfl rfl Try.underlying40 rfl (CellAt.bk 1 rfl rfl)) ?_
  refine wl_read rfl rfl rfl (yl_len rfl rfl Try.underlying40) ?_
  refine wl_split rfl rfl rfl (yp_lss rfl rfl rfl) ?_ ?_
  · intro h4_6
    refine wl_nil ?_
    refine at_keep (Keep.cons 0 rfl (Keep.cons 3 rfl (Keep.cons 4 rfl (Keep.cons 15 rfl Keep.nil)))) ?_
    refine at_true rfl ?_
    refine at_skip ?_
    refine at_seq ?_
    refine at_block ?_
    have hk1 : j < ms.length := by omega
    have hmin : (at_ ms j).mem ∈ pl1 := hi5 _ (hin _ (at_in hk1))
    have hmsz := hsz _ (at_in hk1)
    have hql : qs.length = j := by have := congrArg List.length hi1; simpa [hk1, Nat.le_of_lt] using this
    refine at_open (fun _ hw => Chn.opens hw) (fun x => ?_)
    obtain ⟨A4, c4⟩ := x
    refine at_draw2 (.fl 0 (.fl 2 (.fl 3 (.fl 4 (.fl 5 (.fl 6 (.fl 7 (.fl 8 (.ef2 1 (.ef 9 (.ef 10 (.ef 11 (.fl 12 (.ef 13 .nil))))) 9 (.ef2 1 (.ef 10 (.ef 11 (.fl 12 (.ef 13 .nil)))) 10 (.ef 1 (.ef 11 (.fl 12 (.ef 13 .nil)))))))))))))) (by kernel_rfl) (by kernel_rfl) ?_
    refine wt_read rfl rfl rfl rfl (yl_fieldB rfl rfl Try.underlying42 rfl (by kernel_rfl) rfl) ?_
    refine wt_read rfl rfl rfl rfl (yl_move rfl rfl) ?_
    refine wt_read rfl rfl rfl rfl (yl_nilCheck rfl rfl) ?_
    refine wt_read rfl rfl rfl rfl (yl_fieldB rfl rfl Try.underlying42 rfl (by kernel_rfl) rfl) ?_
    refine wt_read rfl rfl rfl rfl (yl_load rfl rfl Try.underlying40 rfl (CellAt.bk 0 rfl rfl)) ?_
    refine wt_read rfl rfl rfl rfl (yl_move rfl rfl) ?_
    refine wt_read rfl rfl rfl rfl (yl_index rfl rfl rfl (Rd.of_sl 1 rfl) (at_some hk1) rfl rfl Try.underlying40 (by kernel_rfl) rfl) ?_
    refine wt_read rfl rfl rfl rfl (yl_loadRow rfl rfl (Rd.of_sl 1 rfl) (at_some hk1) Try.underlying33 rfl (by kernel_rfl) rfl) ?_
    refine wt_two ?_ ?_
    ·
      refine wt_readE rfl rfl rfl rfl (yl_load rfl rfl Try.underlying40 rfl (CellAt.bk 0 rfl rfl)) ⟨[_, _], rfl⟩ ?_
      refine wt_call rfl rfl rfl rfl (en_call rfl rfl) (copied_fn (at_ ms j) _ _ (Rd.pool (m := (at_ ms j).mem) 4 rfl hmin) (by omega)) ?_
      rintro _ _ ⟨A1, c1, rfl, rfl⟩
      refine ⟨⟨[_, _, _], rfl⟩, ?_⟩
      refine wt_eff rfl rfl rfl rfl (ef_buildSlice (e := 33) [(at_ ms j).cp A1 c1] rfl rfl (fun _ => by kernel_rfl) rfl rfl) ?_
      rintro _ _ ⟨T6_10, rfl, rfl⟩
      refine ⟨⟨[_, _, _, _], rfl⟩, ?_⟩
      refine wt_eff rfl rfl rfl rfl (ef_append (ys := [(at_ ms j).cp A1 c1]) 3 rfl rfl rfl rfl (Rd.of_sl 0 rfl) Try.underlying40 info33 rfl rfl (by simp only [List.length_singleton, maxLen]; omega) (by simp only [List.length_singleton]; omega)) ?_
      rintro _ _ ⟨A2, c2, rfl, hH⟩
      simp only [List.set_cons_succ, List.set_cons_zero] at hH; subst hH
      refine ⟨⟨[_, _, _, _], rfl⟩, ?_⟩
      refine wt_read rfl rfl rfl rfl (yl_fieldB rfl rfl Try.underlying42 rfl (by kernel_rfl) rfl) ?_
      refine wt_store rfl rfl rfl (es_at2 (es_store 2 rfl rfl rfl rfl (by kernel_rfl) rfl rfl)) ⟨[_, _, _, _], rfl⟩ ?_
      refine wt_nil ?_
      refine at_keep (Keep.cons 0 rfl (Keep.cons 3 rfl (Keep.cons 4 rfl (Keep.cons 15 rfl Keep.nil)))) ?_
      refine at_inBlock ?_
      refine at_heap (fun _ hw => hw.tail) ?_
      refine at_heap (fun _ hw => hw.front5.front1) ?_
      refine at_heap (fun _ hw => hw.poolIn) ?_
      refine at_heap (fun _ hw => hw.front4.front4.front4.front4) ?_
      refine at_heap (fun _ hw => Chn.closes (ms := qs ++ [(at_ ms j).cp A1 c1]) (k := k) hw) ?_
      refine at_region ?_
      refine wl_read rfl rfl rfl (yl_move rfl rfl) ?_
      refine wl_read rfl rfl rfl (yl_add rfl rfl rfl (w64 (by omega) (by omega))) ?_
      refine wl_read rfl rfl rfl (yl_assign rfl rfl) ?_
      refine wl_nil ?_
      refine at_keep (Keep.cons 0 rfl (Keep.cons 3 rfl (Keep.cons 4 rfl (Keep.cons 15 rfl Keep.nil)))) ?_
      exact at_keep (L' := (fun (j : Nat) (qs : List Msg) (pl1 : List (Mem UInt8)) => [(0, .pointer (some ⟨g, 0, none⟩)), (3, .pointer (some ⟨g3, 0, none⟩)), (4, .int .i64 (j : Int))]) (j + 1) (qs ++ [(at_ ms j).cp A1 c1]) (⟨A1, c1, (at_ ms j).bs⟩ :: pl1)) (Keep.consEq 0 rfl rfl (Keep.consEq 3 rfl rfl (Keep.consEq 4 rfl rfl Keep.nil))) (ih (j + 1) (qs ++ [(at_ ms j).cp A1 c1]) (⟨A1, c1, (at_ ms j).bs⟩ :: pl1) ⟨by omega, by rw [take_succ_at hk1, List.map_append, List.map_append, hi1]; rfl, fun m hm => by
      rcases List.mem_append.1 hm with h | h
      · exact List.mem_cons_of_mem _ (hi3 m h)
      · simp at h; subst h; exact List.mem_cons_self, fun m hm => by
      rcases List.mem_append.1 hm with h | h
      · exact hi4 m h
      · simp at h; subst h; exact hmsz, fun m hm => List.mem_cons_of_mem _ (hi5 m hm)⟩ (by omega))
    ·
      refine wt_call rfl rfl rfl rfl (en_call rfl rfl) (copied_fn (at_ ms j) _ _ (Rd.pool (m := (at_ ms j).mem) 4 rfl hmin) (by omega)) ?_
      rintro _ _ ⟨A1, c1, rfl, rfl⟩
      refine ⟨⟨[_, _, _], rfl⟩, ?_⟩
      refine wt_two ?_ ?_
      ·
        refine wt_readE rfl rfl rfl rfl (yl_load rfl rfl Try.underlying40 rfl (CellAt.bk 1 rfl rfl)) ⟨[_, _, _], rfl⟩ ?_
        refine wt_eff rfl rfl rfl rfl (ef_buildSlice (e := 33) [(at_ ms j).cp A1 c1] rfl rfl (fun _ => by kernel_rfl) rfl rfl) ?_
        rintro _ _ ⟨T6_10, rfl, rfl⟩
        refine ⟨⟨[_, _, _, _], rfl⟩, ?_⟩
        refine wt_eff rfl rfl rfl rfl (ef_append (ys := [(at_ ms j).cp A1 c1]) 3 rfl rfl rfl rfl (Rd.of_sl 0 rfl) Try.underlying40 info33 rfl rfl (by simp only [List.length_singleton, maxLen]; omega) (by simp only [List.length_singleton]; omega)) ?_
        rintro _ _ ⟨A2, c2, rfl, hH⟩
        simp only [List.set_cons_succ, List.set_cons_zero] at hH; subst hH
        refine ⟨⟨[_, _, _, _], rfl⟩, ?_⟩
        refine wt_read rfl rfl rfl rfl (yl_fieldB rfl rfl Try.underlying42 rfl (by kernel_rfl) rfl) ?_
        refine wt_store rfl rfl rfl (es_at2 (es_store 2 rfl rfl rfl rfl (by kernel_rfl) rfl rfl)) ⟨[_, _, _, _], rfl⟩ ?_
        refine wt_nil ?_
        refine at_keep (Keep.cons 0 rfl (Keep.cons 3 rfl (Keep.cons 4 rfl (Keep.cons 15 rfl Keep.nil)))) ?_
        refine at_inBlock ?_
        refine at_heap (fun _ hw => hw.tail) ?_
        refine at_heap (fun _ hw => hw.front5.front1) ?_
        refine at_heap (fun _ hw => hw.poolIn) ?_
        refine at_heap (fun _ hw => hw.front4.front4.front4.front4) ?_
        refine at_heap (fun _ hw => Chn.closes (ms := qs ++ [(at_ ms j).cp A1 c1]) (k := k) hw) ?_
        refine at_region ?_
        refine wl_read rfl rfl rfl (yl_move rfl rfl) ?_
        refine wl_read rfl rfl rfl (yl_add rfl rfl rfl (w64 (by omega) (by omega))) ?_
        refine wl_read rfl rfl rfl (yl_assign rfl rfl) ?_
        refine wl_nil ?_
        refine at_keep (Keep.cons 0 rfl (Keep.cons 3 rfl (Keep.cons 4 rfl (Keep.cons 15 rfl Keep.nil)))) ?_
        exact at_keep (L' := (fun (j : Nat) (qs : List Msg) (pl1 : List (Mem UInt8)) => [(0, .pointer (some ⟨g, 0, none⟩)), (3, .pointer (some ⟨g3, 0, none⟩)), (4, .int .i64 (j : Int))]) (j + 1) (qs ++ [(at_ ms j).cp A1 c1]) (⟨A1, c1, (at_ ms j).bs⟩ :: pl1)) (Keep.consEq 0 rfl rfl (Keep.consEq 3 rfl rfl (Keep.consEq 4 rfl rfl Keep.nil))) (ih (j + 1) (qs ++ [(at_ ms j).cp A1 c1]) (⟨A1, c1, (at_ ms j).bs⟩ :: pl1) ⟨by omega, by rw [take_succ_at hk1, List.map_append, List.map_append, hi1]; rfl, fun m hm => by
      rcases List.mem_append.1 hm with h | h
      · exact List.mem_cons_of_mem _ (hi3 m h)
      · simp at h; subst h; exact List.mem_cons_self, fun m hm => by
      rcases List.mem_append.1 hm with h | h
      · exact hi4 m h
      · simp at h; subst h; exact hmsz, fun m hm => List.mem_cons_of_mem _ (hi5 m hm)⟩ (by omega))
      ·
        refine wt_eff rfl rfl rfl rfl (ef_buildSlice (e := 33) [(at_ ms j).cp A1 c1] rfl rfl (fun _ => by kernel_rfl) rfl rfl) ?_
        rintro _ _ ⟨T6_10, rfl, rfl⟩
        refine ⟨⟨[_, _, _, _], rfl⟩, ?_⟩
        refine wt_readE rfl rfl rfl rfl (yl_load rfl rfl Try.underlying40 rfl (CellAt.bk 2 rfl rfl)) ⟨[_, _, _, _], rfl⟩ ?_
        refine wt_eff rfl rfl rfl rfl (ef_append (ys := [(at_ ms j).cp A1 c1]) 3 rfl rfl rfl rfl (Rd.of_sl 0 rfl) Try.underlying40 info33 rfl rfl (by simp only [List.length_singleton, maxLen]; omega) (by simp only [List.length_singleton]; omega)) ?_
        rintro _ _ ⟨A2, c2, rfl, hH⟩
        simp only [List.set_cons_succ, List.set_cons_zero] at hH; subst hH
        refine ⟨⟨[_, _, _, _], rfl⟩, ?_⟩
        refine wt_read rfl rfl rfl rfl (yl_fieldB rfl rfl Try.underlying42 rfl (by kernel_rfl) rfl) ?_
        refine wt_store rfl rfl rfl (es_at2 (es_store 2 rfl rfl rfl rfl (by kernel_rfl) rfl rfl)) ⟨[_, _, _, _], rfl⟩ ?_
        refine wt_nil ?_
        refine at_keep (Keep.cons 0 rfl (Keep.cons 3 rfl (Keep.cons 4 rfl (Keep.cons 15 rfl Keep.nil)))) ?_
        refine at_inBlock ?_
        refine at_heap (fun _ hw => hw.tail) ?_
        refine at_heap (fun _ hw => hw.front5.front1) ?_
        refine at_heap (fun _ hw => hw.poolIn) ?_
        refine at_heap (fun _ hw => hw.front4.front4.front4.front4) ?_
        refine at_heap (fun _ hw => Chn.closes (ms := qs ++ [(at_ ms j).cp A1 c1]) (k := k) hw) ?_
        refine at_region ?_
        refine wl_read rfl rfl rfl (yl_move rfl rfl) ?_
        refine wl_read rfl rfl rfl (yl_add rfl rfl rfl (w64 (by omega) (by omega))) ?_
        refine wl_read rfl rfl rfl (yl_assign rfl rfl) ?_
        refine wl_nil ?_
        refine at_keep (Keep.cons 0 rfl (Keep.cons 3 rfl (Keep.cons 4 rfl (Keep.cons 15 rfl Keep.nil)))) ?_
        exact at_keep (L' := (fun (j : Nat) (qs : List Msg) (pl1 : List (Mem UInt8)) => [(0, .pointer (some ⟨g, 0, none⟩)), (3, .pointer (some ⟨g3, 0, none⟩)), (4, .int .i64 (j : Int))]) (j + 1) (qs ++ [(at_ ms j).cp A1 c1]) (⟨A1, c1, (at_ ms j).bs⟩ :: pl1)) (Keep.consEq 0 rfl rfl (Keep.consEq 3 rfl rfl (Keep.consEq 4 rfl rfl Keep.nil))) (ih (j + 1) (qs ++ [(at_ ms j).cp A1 c1]) (⟨A1, c1, (at_ ms j).bs⟩ :: pl1) ⟨by omega, by rw [take_succ_at hk1, List.map_append, List.map_append, hi1]; rfl, fun m hm => by
      rcases List.mem_append.1 hm with h | h
      · exact List.mem_cons_of_mem _ (hi3 m h)
      · simp at h; subst h; exact List.mem_cons_self, fun m hm => by
      rcases List.mem_append.1 hm with h | h
      · exact hi4 m h
      · simp at h; subst h; exact hmsz, fun m hm => List.mem_cons_of_mem _ (hi5 m hm)⟩ (by omega))
  · intro h4_6
    refine wl_nil ?_
    refine at_keep (Keep.cons 0 rfl (Keep.cons 3 rfl (Keep.cons 4 rfl (Keep.cons 15 rfl Keep.nil)))) ?_
    refine at_false rfl ?_
    refine at_exit rfl ?_
    refine at_seq ?_
    obtain rfl : j = ms.length := by omega
    refine at_region ?_
    refine wl_read rfl rfl rfl (yl_assign rfl rfl) ?_
    refine wl_nil ?_
    refine at_keep (Keep.cons 0 rfl (Keep.cons 2 rfl (Keep.cons 3 rfl (Keep.cons 4 rfl (Keep.cons 15 rfl Keep.nil))))) ?_
    refine at_retH (fun _ hw => (Chn.closes (ms := ms) (k := k) hw.down2).front1) Try.func26 (res1 rfl rfl) ?_
    exact ⟨g3, qs, pl1, rfl, by rw [hi1, List.take_length], hi3, hi4, hi5, rfl⟩
end Go.Proofs.Ytcpcgllkdpfacaa

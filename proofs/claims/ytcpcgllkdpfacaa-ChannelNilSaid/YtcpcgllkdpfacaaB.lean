/- Walks of the calls that turn a channel. -/
import Derived.Test.YtcpcgllkdpfacaaA
namespace Go.Proofs.Ytcpcgllkdpfacaa
open Go

theorem infoz33 : (Try.prog.info? 33).map (fun i => (i.zero, i.size)) = some (some (.agg #[.int .i64 0, .int .i64 0, .slice none 0 0]), Enc.size Msg) := by kernel_rfl
theorem z33 : ∀ u, u ∈ (Value.agg #[.int .i64 0, .int .i64 0, .slice none 0 0]).cells → u.oneCell' = true := by
  intro u hu
  simp [Value.cells] at hu
  rcases hu with rfl | rfl | rfl <;> rfl

theorem delete_fn (ms : List Msg) (A : Option Addr) (c j : Nat) (b : World) (H : List Asr) (hj : j < ms.length) (hl : ms.length ≤ 1000) : Fn Try.prog 37 [.slice A ms.length c, .int .i64 (j : Int), .int .i64 ((j : Int) + 1)] b (Sl A c 33 ms :: H)
    (fun v H' => v = .slice A (ms.eraseIdx j).length c ∧ H' = Sl A c 33 (ms.eraseIdx j) :: H) := by
  refine Fn.know (by kernel_rfl) (p := ms.length ≤ c) (fun w hw => hw.slCap 0 rfl) (fun hcap => ?_)
  have hel : (ms.eraseIdx j).length = ms.length - 1 := by rw [List.length_eraseIdx, if_pos hj]
  refine fn_of_at (by kernel_rfl) Try.func37 rfl Try.ntmps37 rfl rfl ?_
  refine at_seq ?_
  refine at_region ?_
  refine wl_read rfl rfl rfl (yl_assign rfl rfl) ?_
  refine wl_nil ?_
  refine at_keep (Keep.cons 0 rfl (Keep.cons 1 rfl (Keep.cons 2 rfl (Keep.cons 6 rfl Keep.nil)))) ?_
  refine at_seq ?_
  refine at_region ?_
  refine wl_read rfl rfl rfl (yl_move rfl rfl) ?_
  refine wl_read rfl rfl rfl (yl_move rfl rfl) ?_
  refine wl_read rfl rfl rfl (yl_move rfl rfl) ?_
  refine wl_read rfl rfl rfl (yl_move rfl rfl) ?_
  refine wl_read rfl rfl rfl (yl_len rfl rfl Try.underlying40) ?_
  refine wl_read rfl rfl rfl (yl_slice3 (j := j) (j2 := j + 1) (j3 := ms.length) 3 rfl rfl rfl rfl rfl rfl (by omega) rfl (by omega) (by omega) hcap Try.underlying40 (by kernel_rfl) rfl) ?_
  refine wl_nil ?_
  refine at_keep (Keep.cons 0 rfl (Keep.cons 1 rfl (Keep.cons 2 rfl (Keep.cons 6 rfl Keep.nil)))) ?_
  refine at_seq ?_
  refine at_seq ?_
  refine at_region ?_
  refine wl_read rfl rfl rfl (yl_move rfl rfl) ?_
  refine wl_read rfl rfl rfl (yl_move rfl rfl) ?_
  refine wl_read rfl rfl rfl ((yp_eql rfl rfl rfl).2 (by omega)) ?_
  refine wl_nil ?_
  refine at_keep (Keep.cons 0 rfl (Keep.cons 1 rfl (Keep.cons 2 rfl (Keep.cons 6 rfl (Keep.cons 16 rfl Keep.nil))))) ?_
  refine at_false rfl ?_
  refine at_skip ?_
  refine at_seq ?_
  refine at_region ?_
  refine wl_read rfl rfl rfl (yl_move rfl rfl) ?_
  refine wl_read rfl rfl rfl (yl_len rfl rfl Try.underlying40) ?_
  refine wl_read rfl rfl rfl (yl_assign rfl rfl) ?_
  refine wl_nil ?_
  refine at_keep (Keep.cons 0 rfl (Keep.cons 1 rfl (Keep.cons 2 rfl (Keep.cons 6 rfl (Keep.cons 7 rfl (Keep.cons 16 rfl Keep.nil)))))) ?_
  refine at_seq ?_
  refine at_draw1 (.fl 0 (.fl 1 (.fl 2 (.fl 3 (.fl 4 (.fl 5 (.ef 6 (.fl 7 .nil)))))))) (by kernel_rfl) (by kernel_rfl) ?_
  refine wt_read rfl rfl rfl rfl (yl_move rfl rfl) ?_
  refine wt_read rfl rfl rfl rfl (yl_move rfl rfl) ?_
  refine wt_read rfl rfl rfl rfl (yl_sliceH (xs := ms) (j := j) rfl rfl rfl rfl (by omega) hcap Try.underlying40 (by kernel_rfl) rfl) ?_
  refine wt_read rfl rfl rfl rfl (yl_move rfl rfl) ?_
  refine wt_read rfl rfl rfl rfl (yl_move rfl rfl) ?_
  refine wt_read rfl rfl rfl rfl (yl_sliceL (xs := ms) (j := j + 1) rfl rfl rfl (by omega) (by omega) Try.underlying40 (by kernel_rfl) rfl) ?_
  refine wt_eff rfl rfl rfl rfl (ef_delete (xs := ms) (i := j) 0 rfl rfl rfl rfl hj Try.underlying40 (by kernel_rfl) rfl) ?_
  rintro _ _ ⟨rfl, hH⟩
  simp only [List.set_cons_succ, List.set_cons_zero] at hH; subst hH
  refine ⟨⟨[_], rfl⟩, ?_⟩
  refine wt_read rfl rfl rfl rfl (yl_assign rfl rfl) ?_
  refine wt_nil ?_
  refine at_keep (Keep.cons 0 rfl (Keep.cons 1 rfl (Keep.cons 2 rfl (Keep.cons 6 rfl (Keep.cons 7 rfl (Keep.cons 16 rfl Keep.nil)))))) ?_
  refine at_seq ?_
  refine at_region ?_
  refine wl_read rfl rfl rfl (yl_move rfl rfl) ?_
  refine wl_read rfl rfl rfl (yl_move rfl rfl) ?_
  refine wl_read rfl rfl rfl (yl_len rfl rfl Try.underlying40) ?_
  refine wl_read rfl rfl rfl (yl_move rfl rfl) ?_
  refine wl_read rfl rfl rfl (yl_sliceRaw (j := (ms.eraseIdx j).length) (j2 := ms.length) 3 rfl rfl rfl rfl rfl rfl (by omega) hcap Try.underlying40 (by kernel_rfl) rfl) ?_
  refine wl_eff0 rfl rfl (ec_clear (α := Msg) (xs := ms.eraseIdx j) 0 rfl rfl rfl (Nat.le_refl _) (by omega) Try.underlying40 infoz33 rfl z33 rfl) ?_
  refine wl_nil ?_
  refine at_keep (Keep.cons 0 rfl (Keep.cons 1 rfl (Keep.cons 2 rfl (Keep.cons 6 rfl (Keep.cons 7 rfl (Keep.cons 16 rfl Keep.nil)))))) ?_
  refine at_seq ?_
  refine at_region ?_
  refine wl_read rfl rfl rfl (yl_move rfl rfl) ?_
  refine wl_read rfl rfl rfl (yl_assign rfl rfl) ?_
  refine wl_nil ?_
  refine at_keep (Keep.cons 0 rfl (Keep.cons 1 rfl (Keep.cons 2 rfl (Keep.cons 6 rfl (Keep.cons 7 rfl (Keep.cons 16 rfl Keep.nil)))))) ?_
  refine at_ret Try.func37 (res1 rfl rfl) ?_
  exact ⟨rfl, rfl⟩
theorem remove_fn (ms : List Msg) (k : Cts) (g : Nat) (b : World) (H : List Asr) (j : Nat) (hok : Ok H ms) (hj : j < ms.length) : Fn Try.prog 30 [.pointer (some ⟨g, 0, none⟩), .int .i64 (j : Int)] b (Chn 58 g ms k :: H)
    (fun v H' => ∃ A' c', v = .tuple #[.agg (Enc.cells ((at_ ms j).cp A' c')).toArray, .bool true] ∧ H' = Sl A' c' 5 (at_ ms j).bs :: Chn 58 g (ms.eraseIdx j) k :: H) := by
  have hl := hok.len
  refine Chn.fn fun A c => ?_
  refine fn_of_at (by kernel_rfl) Try.func30 rfl Try.ntmps30 rfl rfl ?_
  refine at_seq ?_
  refine at_region ?_
  refine wl_eff rfl rfl rfl (ef_alloc (cs := [.int .i64 0, .int .i64 0, .slice none 0 0]) (z := .agg #[.int .i64 0, .int .i64 0, .slice none 0 0]) rfl (by kernel_rfl) rfl) ?_
  rintro _ _ ⟨g0, rfl, rfl⟩
  refine wl_read rfl rfl rfl (yl_assign rfl rfl) ?_
  refine wl_nil ?_
  refine at_keep (Keep.cons 0 rfl (Keep.cons 1 rfl (Keep.cons 4 rfl (Keep.cons 5 rfl Keep.nil)))) ?_
  refine at_seq ?_
  refine at_region ?_
  refine wl_read rfl rfl rfl (yl_move rfl rfl) ?_
  refine wl_read rfl rfl rfl (yl_move rfl rfl) ?_
  refine wl_call rfl rfl rfl (en_call rfl rfl) (at_at ms g j _ _ (CellAt.bk 1 rfl rfl) (Rd.of_sl 2 rfl) (((hok.cons _).cons _).cons _) hj) ?_
  rintro _ _ ⟨A1, c1, rfl, rfl⟩
  refine wl_read rfl rfl rfl (yl_move rfl rfl) ?_
  refine wl_read rfl rfl rfl (yl_extract rfl rfl rfl) ?_
  refine wl_read rfl rfl rfl (yl_extract rfl rfl rfl) ?_
  refine wl_eff rfl rfl rfl (ef_alloc (cs := [.int .i64 0, .int .i64 0, .slice none 0 0]) (z := .agg #[.int .i64 0, .int .i64 0, .slice none 0 0]) rfl (by kernel_rfl) rfl) ?_
  rintro _ _ ⟨g6, rfl, rfl⟩
  refine wl_store rfl rfl (es_at0 (es_storeN 0 rfl rfl rfl rfl (by kernel_rfl) rfl rfl)) ?_
  refine wl_read rfl rfl rfl (yl_assign rfl rfl) ?_
  refine wl_nil ?_
  refine at_keep (Keep.cons 0 rfl (Keep.cons 1 rfl (Keep.cons 4 rfl (Keep.cons 5 rfl (Keep.cons 6 rfl (Keep.cons 7 rfl Keep.nil)))))) ?_
  refine at_seq ?_
  refine at_seq ?_
  refine at_region ?_
  refine wl_read rfl rfl rfl (yl_move rfl rfl) ?_
  refine wl_nil ?_
  refine at_keep (Keep.cons 0 rfl (Keep.cons 1 rfl (Keep.cons 4 rfl (Keep.cons 5 rfl (Keep.cons 6 rfl (Keep.cons 7 rfl (Keep.cons 14 rfl Keep.nil))))))) ?_
  refine at_true rfl ?_
  refine at_region ?_
  refine wl_read rfl rfl rfl (yl_move rfl rfl) ?_
  refine wl_read rfl rfl rfl (yl_move rfl rfl) ?_
  refine wl_read rfl rfl rfl (yl_nilCheck rfl rfl) ?_
  refine wl_read rfl rfl rfl (yl_fieldB rfl rfl Try.underlying58 rfl (by kernel_rfl) rfl) ?_
  refine wl_read rfl rfl rfl (yl_load rfl rfl Try.underlying40 rfl (CellAt.bk 3 rfl rfl)) ?_
  refine wl_read rfl rfl rfl (yl_move rfl rfl) ?_
  refine wl_read rfl rfl rfl (yl_move rfl rfl) ?_
  refine wl_read rfl rfl rfl (yl_add rfl rfl rfl (w64 (by omega) (by omega))) ?_
  refine wl_heap (fun _ hw => hw.front4) ?_
  refine wl_call rfl rfl rfl (en_call rfl rfl) (delete_fn ms A c j _ _ hj (by omega)) ?_
  rintro _ _ ⟨rfl, rfl⟩
  refine wl_read rfl rfl rfl (yl_nilCheck rfl rfl) ?_
  refine wl_read rfl rfl rfl (yl_fieldB rfl rfl Try.underlying58 rfl (by kernel_rfl) rfl) ?_
  refine wl_store rfl rfl (es_at4 (es_store 4 rfl rfl rfl rfl (by kernel_rfl) rfl rfl)) ?_
  refine wl_nil ?_
  refine at_keep (Keep.cons 0 rfl (Keep.cons 1 rfl (Keep.cons 4 rfl (Keep.cons 5 rfl (Keep.cons 6 rfl (Keep.cons 7 rfl (Keep.cons 14 rfl Keep.nil))))))) ?_
  refine at_seq ?_
  refine at_region ?_
  refine wl_read rfl rfl rfl (yl_loadBk 1 rfl rfl rfl Try.underlying33 rfl (by kernel_rfl)) ?_
  refine wl_read rfl rfl rfl (yl_move rfl rfl) ?_
  refine wl_store rfl rfl (es_at3 (es_storeN 3 rfl rfl rfl rfl (by kernel_rfl) rfl rfl)) ?_
  refine wl_read rfl rfl rfl (yl_assign rfl rfl) ?_
  refine wl_nil ?_
  refine at_keep (Keep.cons 0 rfl (Keep.cons 1 rfl (Keep.cons 4 rfl (Keep.cons 5 rfl (Keep.cons 6 rfl (Keep.cons 7 rfl (Keep.cons 14 rfl Keep.nil))))))) ?_
  refine at_retH (fun _ hw => (Chn.closes  hw.front2.front1.front4.drop3.drop3).front1) Try.func30 (resC1 3 rfl rfl rfl Try.underlying33 rfl (by kernel_rfl) rfl) ?_
  exact ⟨A1, c1, rfl, rfl⟩
theorem remove_out (ms : List Msg) (k : Cts) (g : Nat) (b : World) (H : List Asr) (i : Int) (hi : ¬ (0 ≤ i ∧ i < ms.length)) : Fn Try.prog 30 [.pointer (some ⟨g, 0, none⟩), .int .i64 i] b (Chn 58 g ms k :: H) (fun v H' => v = .tuple #[.agg (Enc.cells Msg.zero).toArray, .bool false] ∧ Chn 58 g ms k :: H = H') := by
  refine Chn.fn fun A c => ?_
  refine fn_of_at (by kernel_rfl) Try.func30 rfl Try.ntmps30 rfl rfl ?_
  refine at_seq ?_
  refine at_region ?_
  refine wl_eff rfl rfl rfl (ef_alloc (cs := [.int .i64 0, .int .i64 0, .slice none 0 0]) (z := .agg #[.int .i64 0, .int .i64 0, .slice none 0 0]) rfl (by kernel_rfl) rfl) ?_
  rintro _ _ ⟨g0, rfl, rfl⟩
  refine wl_read rfl rfl rfl (yl_assign rfl rfl) ?_
  refine wl_nil ?_
  refine at_keep (Keep.cons 0 rfl (Keep.cons 1 rfl (Keep.cons 4 rfl (Keep.cons 5 rfl Keep.nil)))) ?_
  refine at_seq ?_
  refine at_region ?_
  refine wl_read rfl rfl rfl (yl_move rfl rfl) ?_
  refine wl_read rfl rfl rfl (yl_move rfl rfl) ?_
  refine wl_call rfl rfl rfl (en_call rfl rfl) (at_out g _ _ i (CellAt.bk 1 rfl rfl) hi) ?_
  rintro _ _ ⟨rfl, rfl⟩
  refine wl_read rfl rfl rfl (yl_move rfl rfl) ?_
  refine wl_read rfl rfl rfl (yl_extract rfl rfl rfl) ?_
  refine wl_read rfl rfl rfl (yl_extract rfl rfl rfl) ?_
  refine wl_eff rfl rfl rfl (ef_alloc (cs := [.int .i64 0, .int .i64 0, .slice none 0 0]) (z := .agg #[.int .i64 0, .int .i64 0, .slice none 0 0]) rfl (by kernel_rfl) rfl) ?_
  rintro _ _ ⟨g6, rfl, rfl⟩
  refine wl_store rfl rfl (es_at0 (es_storeN 0 rfl rfl rfl rfl (by kernel_rfl) rfl rfl)) ?_
  refine wl_read rfl rfl rfl (yl_assign rfl rfl) ?_
  refine wl_nil ?_
  refine at_keep (Keep.cons 0 rfl (Keep.cons 1 rfl (Keep.cons 4 rfl (Keep.cons 5 rfl (Keep.cons 6 rfl (Keep.cons 7 rfl Keep.nil)))))) ?_
  refine at_seq ?_
  refine at_seq ?_
  refine at_region ?_
  refine wl_read rfl rfl rfl (yl_move rfl rfl) ?_
  refine wl_nil ?_
  refine at_keep (Keep.cons 0 rfl (Keep.cons 1 rfl (Keep.cons 4 rfl (Keep.cons 5 rfl (Keep.cons 6 rfl (Keep.cons 7 rfl (Keep.cons 14 rfl Keep.nil))))))) ?_
  refine at_false rfl ?_
  refine at_skip ?_
  refine at_seq ?_
  refine at_region ?_
  refine wl_read rfl rfl rfl (yl_loadBk 0 rfl rfl rfl Try.underlying33 rfl (by kernel_rfl)) ?_
  refine wl_read rfl rfl rfl (yl_move rfl rfl) ?_
  refine wl_store rfl rfl (es_at1 (es_storeN 1 rfl rfl rfl rfl (by kernel_rfl) rfl rfl)) ?_
  refine wl_read rfl rfl rfl (yl_assign rfl rfl) ?_
  refine wl_nil ?_
  refine at_keep (Keep.cons 0 rfl (Keep.cons 1 rfl (Keep.cons 4 rfl (Keep.cons 5 rfl (Keep.cons 6 rfl (Keep.cons 7 rfl (Keep.cons 14 rfl Keep.nil))))))) ?_
  refine at_retH (fun _ hw => (Chn.closes  hw.front3.front3.drop2.drop2)) Try.func30 (resC1 1 rfl rfl rfl Try.underlying33 rfl (by kernel_rfl) rfl) ?_
  exact ⟨rfl, rfl⟩
theorem take_fn (ms : List Msg) (k : Cts) (g : Nat) (b : World) (H : List Asr) (j : Nat) (hok : Ok H ms) (hj : j < ms.length) : Fn Try.prog 38 [.pointer (some ⟨g, 0, none⟩), .int .i64 (j : Int)] b (Chn 42 g ms k :: H)
    (fun v H' => ∃ A' c', v = .tuple #[.agg (Enc.cells ((at_ ms j).cp A' c')).toArray, .bool true] ∧ H' = Sl A' c' 5 (at_ ms j).bs :: Chn 42 g (ms.eraseIdx j) k :: H) := by
  have hl := hok.len
  refine Chn.fn fun A c => ?_
  refine Fn.know (by kernel_rfl) (p := ms.length ≤ c) (fun w hw => hw.slCap 1 rfl) (fun hcap => ?_)
  have hel : (ms.eraseIdx j).length = ms.length - 1 := by rw [List.length_eraseIdx, if_pos hj]
  have htk : (ms.take j).length = j := by rw [List.length_take]; omega
  have hdr : (ms.drop (j + 1)).length = ms.length - (j + 1) := List.length_drop
  refine fn_of_at (by kernel_rfl) Try.func38 rfl Try.ntmps38 rfl rfl ?_
  refine at_seq ?_
  refine at_region ?_
  refine wl_eff rfl rfl rfl (ef_alloc (cs := [.int .i64 0, .int .i64 0, .slice none 0 0]) (z := .agg #[.int .i64 0, .int .i64 0, .slice none 0 0]) rfl (by kernel_rfl) rfl) ?_
  rintro _ _ ⟨g0, rfl, rfl⟩
  refine wl_read rfl rfl rfl (yl_assign rfl rfl) ?_
  refine wl_nil ?_
  refine at_keep (Keep.cons 0 rfl (Keep.cons 1 rfl (Keep.cons 4 rfl (Keep.cons 5 rfl Keep.nil)))) ?_
  refine at_seq ?_
  refine at_region ?_
  refine wl_read rfl rfl rfl (yl_move rfl rfl) ?_
  refine wl_read rfl rfl rfl (yl_move rfl rfl) ?_
  refine wl_call rfl rfl rfl (en_call rfl rfl) (rat_at ms g j _ _ (CellAt.bk 1 rfl rfl) (Rd.of_sl 2 rfl) (((hok.cons _).cons _).cons _) hj) ?_
  rintro _ _ ⟨A1, c1, rfl, rfl⟩
  refine wl_read rfl rfl rfl (yl_move rfl rfl) ?_
  refine wl_read rfl rfl rfl (yl_extract rfl rfl rfl) ?_
  refine wl_read rfl rfl rfl (yl_extract rfl rfl rfl) ?_
  refine wl_eff rfl rfl rfl (ef_alloc (cs := [.int .i64 0, .int .i64 0, .slice none 0 0]) (z := .agg #[.int .i64 0, .int .i64 0, .slice none 0 0]) rfl (by kernel_rfl) rfl) ?_
  rintro _ _ ⟨g6, rfl, rfl⟩
  refine wl_store rfl rfl (es_at0 (es_storeN 0 rfl rfl rfl rfl (by kernel_rfl) rfl rfl)) ?_
  refine wl_read rfl rfl rfl (yl_assign rfl rfl) ?_
  refine wl_nil ?_
  refine at_keep (Keep.cons 0 rfl (Keep.cons 1 rfl (Keep.cons 4 rfl (Keep.cons 5 rfl (Keep.cons 6 rfl (Keep.cons 7 rfl Keep.nil)))))) ?_
  refine at_seq ?_
  refine at_seq ?_
  refine at_region ?_
  refine wl_read rfl rfl rfl (yl_move rfl rfl) ?_
  refine wl_nil ?_
  refine at_keep (Keep.cons 0 rfl (Keep.cons 1 rfl (Keep.cons 4 rfl (Keep.cons 5 rfl (Keep.cons 6 rfl (Keep.cons 7 rfl (Keep.cons 14 rfl Keep.nil))))))) ?_
  refine at_true rfl ?_
  refine at_heap (fun _ hw => hw.front3) ?_
  refine at_draw1 (.fl 0 (.fl 1 (.fl 2 (.fl 3 (.fl 5 (.fl 8 (.fl 9 (.fl 10 (.fl 12 (.fl 13 (.ef2 4 (.fl 6 (.ef2 7 (.ef 11 (.fl 14 (.ef 15 (.fl 16 (.fl 17 (.ef 18 .nil)))))) 11 (.fl 14 (.ef 7 (.ef 15 (.fl 16 (.fl 17 (.ef 18 .nil)))))))) 11 (.fl 14 (.ef 4 (.fl 6 (.ef 7 (.ef 15 (.fl 16 (.fl 17 (.ef 18 .nil))))))))))))))))))) (by kernel_rfl) (by kernel_rfl) ?_
  refine wt_read rfl rfl rfl rfl (yl_move rfl rfl) ?_
  refine wt_read rfl rfl rfl rfl (yl_move rfl rfl) ?_
  refine wt_read rfl rfl rfl rfl (yl_nilCheck rfl rfl) ?_
  refine wt_read rfl rfl rfl rfl (yl_fieldB rfl rfl Try.underlying42 rfl (by kernel_rfl) rfl) ?_
  refine wt_read rfl rfl rfl rfl (yl_move rfl rfl) ?_
  refine wt_read rfl rfl rfl rfl (yl_move rfl rfl) ?_
  refine wt_read rfl rfl rfl rfl (yl_nilCheck rfl rfl) ?_
  refine wt_read rfl rfl rfl rfl (yl_fieldB rfl rfl Try.underlying42 rfl (by kernel_rfl) rfl) ?_
  refine wt_read rfl rfl rfl rfl (yl_move rfl rfl) ?_
  refine wt_read rfl rfl rfl rfl (yl_add rfl rfl rfl (w64 (by omega) (by omega))) ?_
  refine wt_two ?_ ?_
  ·
    refine wt_readE rfl rfl rfl rfl (yl_load rfl rfl Try.underlying40 rfl (CellAt.bk 0 rfl rfl)) ⟨[_], rfl⟩ ?_
    refine wt_read rfl rfl rfl rfl (yl_sliceH (xs := ms) (j := j) rfl rfl rfl rfl (by omega) hcap Try.underlying40 (by kernel_rfl) rfl) ?_
    refine wt_two ?_ ?_
    ·
      refine wt_eff rfl rfl rfl rfl (ef_append0 (ys := ms.take j) rfl rfl rfl ((Rd.of_sl (xs := ms) 4 rfl).take j) Try.underlying40 info33 rfl rfl (by simp only [maxLen]; omega) (by omega)) ?_
      rintro _ _ ⟨A3, c3, rfl, rfl⟩
      refine ⟨⟨[_, _], rfl⟩, ?_⟩
      refine wt_readE rfl rfl rfl rfl (yl_load rfl rfl Try.underlying40 rfl (CellAt.bk 1 rfl rfl)) ⟨[_, _], rfl⟩ ?_
      refine wt_read rfl rfl rfl rfl (yl_sliceL (xs := ms) (j := j + 1) rfl rfl rfl (by omega) (by omega) Try.underlying40 (by kernel_rfl) rfl) ?_
      refine wt_eff rfl rfl rfl rfl (ef_append (ys := ms.drop (j + 1)) 0 rfl rfl rfl rfl ((Rd.of_sl (xs := ms) 5 rfl).drop (j + 1) hcap) Try.underlying40 info33 rfl rfl (by simp only [maxLen]; omega) (by omega)) ?_
      rintro _ _ ⟨A4, c4, rfl, hH⟩
      simp only [List.set_cons_succ, List.set_cons_zero] at hH; subst hH
      refine ⟨⟨[_, _], rfl⟩, ?_⟩
      rw [← List.eraseIdx_eq_take_drop_succ]
      refine wt_read rfl rfl rfl rfl (yl_nilCheck rfl rfl) ?_
      refine wt_read rfl rfl rfl rfl (yl_fieldB rfl rfl Try.underlying42 rfl (by kernel_rfl) rfl) ?_
      refine wt_store rfl rfl rfl (es_at1 (es_store 1 rfl rfl rfl rfl (by kernel_rfl) rfl rfl)) ⟨[_, _], rfl⟩ ?_
      refine wt_nil ?_
      refine at_keep (Keep.cons 0 rfl (Keep.cons 1 rfl (Keep.cons 4 rfl (Keep.cons 5 rfl (Keep.cons 6 rfl (Keep.cons 7 rfl (Keep.cons 14 rfl Keep.nil))))))) ?_
      refine at_seq ?_
      refine at_region ?_
      refine wl_read rfl rfl rfl (yl_loadBk 2 rfl rfl rfl Try.underlying33 rfl (by kernel_rfl)) ?_
      refine wl_read rfl rfl rfl (yl_move rfl rfl) ?_
      refine wl_store rfl rfl (es_at4 (es_storeN 4 rfl rfl rfl rfl (by kernel_rfl) rfl rfl)) ?_
      refine wl_read rfl rfl rfl (yl_assign rfl rfl) ?_
      refine wl_nil ?_
      refine at_keep (Keep.cons 0 rfl (Keep.cons 1 rfl (Keep.cons 4 rfl (Keep.cons 5 rfl (Keep.cons 6 rfl (Keep.cons 7 rfl (Keep.cons 14 rfl Keep.nil))))))) ?_
      refine at_retH (fun _ hw => (Chn.closes  hw.front3.front1.front2.drop3.drop3.drop3).front1) Try.func38 (resC1 4 rfl rfl rfl Try.underlying33 rfl (by kernel_rfl) rfl) ?_
      exact ⟨A1, c1, rfl, rfl⟩
    ·
      refine wt_readE rfl rfl rfl rfl (yl_load rfl rfl Try.underlying40 rfl (CellAt.bk 0 rfl rfl)) ⟨[_], rfl⟩ ?_
      refine wt_read rfl rfl rfl rfl (yl_sliceL (xs := ms) (j := j + 1) rfl rfl rfl (by omega) (by omega) Try.underlying40 (by kernel_rfl) rfl) ?_
      refine wt_eff rfl rfl rfl rfl (ef_append0 (ys := ms.take j) rfl rfl rfl ((Rd.of_sl (xs := ms) 4 rfl).take j) Try.underlying40 info33 rfl rfl (by simp only [maxLen]; omega) (by omega)) ?_
      rintro _ _ ⟨A3, c3, rfl, rfl⟩
      refine ⟨⟨[_, _], rfl⟩, ?_⟩
      refine wt_eff rfl rfl rfl rfl (ef_append (ys := ms.drop (j + 1)) 0 rfl rfl rfl rfl ((Rd.of_sl (xs := ms) 5 rfl).drop (j + 1) hcap) Try.underlying40 info33 rfl rfl (by simp only [maxLen]; omega) (by omega)) ?_
      rintro _ _ ⟨A4, c4, rfl, hH⟩
      simp only [List.set_cons_succ, List.set_cons_zero] at hH; subst hH
      refine ⟨⟨[_, _], rfl⟩, ?_⟩
      rw [← List.eraseIdx_eq_take_drop_succ]
      refine wt_read rfl rfl rfl rfl (yl_nilCheck rfl rfl) ?_
      refine wt_read rfl rfl rfl rfl (yl_fieldB rfl rfl Try.underlying42 rfl (by kernel_rfl) rfl) ?_
      refine wt_store rfl rfl rfl (es_at1 (es_store 1 rfl rfl rfl rfl (by kernel_rfl) rfl rfl)) ⟨[_, _], rfl⟩ ?_
      refine wt_nil ?_
      refine at_keep (Keep.cons 0 rfl (Keep.cons 1 rfl (Keep.cons 4 rfl (Keep.cons 5 rfl (Keep.cons 6 rfl (Keep.cons 7 rfl (Keep.cons 14 rfl Keep.nil))))))) ?_
      refine at_seq ?_
      refine at_region ?_
      refine wl_read rfl rfl rfl (yl_loadBk 2 rfl rfl rfl Try.underlying33 rfl (by kernel_rfl)) ?_
      refine wl_read rfl rfl rfl (yl_move rfl rfl) ?_
      refine wl_store rfl rfl (es_at4 (es_storeN 4 rfl rfl rfl rfl (by kernel_rfl) rfl rfl)) ?_
      refine wl_read rfl rfl rfl (yl_assign rfl rfl) ?_
      refine wl_nil ?_
      refine at_keep (Keep.cons 0 rfl (Keep.cons 1 rfl (Keep.cons 4 rfl (Keep.cons 5 rfl (Keep.cons 6 rfl (Keep.cons 7 rfl (Keep.cons 14 rfl Keep.nil))))))) ?_
      refine at_retH (fun _ hw => (Chn.closes  hw.front3.front1.front2.drop3.drop3.drop3).front1) Try.func38 (resC1 4 rfl rfl rfl Try.underlying33 rfl (by kernel_rfl) rfl) ?_
      exact ⟨A1, c1, rfl, rfl⟩
  ·
    refine wt_readE rfl rfl rfl rfl (yl_load rfl rfl Try.underlying40 rfl (CellAt.bk 0 rfl rfl)) ⟨[_], rfl⟩ ?_
    refine wt_read rfl rfl rfl rfl (yl_sliceL (xs := ms) (j := j + 1) rfl rfl rfl (by omega) (by omega) Try.underlying40 (by kernel_rfl) rfl) ?_
    refine wt_readE rfl rfl rfl rfl (yl_load rfl rfl Try.underlying40 rfl (CellAt.bk 0 rfl rfl)) ⟨[_], rfl⟩ ?_
    refine wt_read rfl rfl rfl rfl (yl_sliceH (xs := ms) (j := j) rfl rfl rfl rfl (by omega) hcap Try.underlying40 (by kernel_rfl) rfl) ?_
    refine wt_eff rfl rfl rfl rfl (ef_append0 (ys := ms.take j) rfl rfl rfl ((Rd.of_sl (xs := ms) 4 rfl).take j) Try.underlying40 info33 rfl rfl (by simp only [maxLen]; omega) (by omega)) ?_
    rintro _ _ ⟨A3, c3, rfl, rfl⟩
    refine ⟨⟨[_, _], rfl⟩, ?_⟩
    refine wt_eff rfl rfl rfl rfl (ef_append (ys := ms.drop (j + 1)) 0 rfl rfl rfl rfl ((Rd.of_sl (xs := ms) 5 rfl).drop (j + 1) hcap) Try.underlying40 info33 rfl rfl (by simp only [maxLen]; omega) (by omega)) ?_
    rintro _ _ ⟨A4, c4, rfl, hH⟩
    simp only [List.set_cons_succ, List.set_cons_zero] at hH; subst hH
    refine ⟨⟨[_, _], rfl⟩, ?_⟩
    rw [← List.eraseIdx_eq_take_drop_succ]
    refine wt_read rfl rfl rfl rfl (yl_nilCheck rfl rfl) ?_
    refine wt_read rfl rfl rfl rfl (yl_fieldB rfl rfl Try.underlying42 rfl (by kernel_rfl) rfl) ?_
    refine wt_store rfl rfl rfl (es_at1 (es_store 1 rfl rfl rfl rfl (by kernel_rfl) rfl rfl)) ⟨[_, _], rfl⟩ ?_
    refine wt_nil ?_
    refine at_keep (Keep.cons 0 rfl (Keep.cons 1 rfl (Keep.cons 4 rfl (Keep.cons 5 rfl (Keep.cons 6 rfl (Keep.cons 7 rfl (Keep.cons 14 rfl Keep.nil))))))) ?_
    refine at_seq ?_
    refine at_region ?_
    refine wl_read rfl rfl rfl (yl_loadBk 2 rfl rfl rfl Try.underlying33 rfl (by kernel_rfl)) ?_
    refine wl_read rfl rfl rfl (yl_move rfl rfl) ?_
    refine wl_store rfl rfl (es_at4 (es_storeN 4 rfl rfl rfl rfl (by kernel_rfl) rfl rfl)) ?_
    refine wl_read rfl rfl rfl (yl_assign rfl rfl) ?_
    refine wl_nil ?_
    refine at_keep (Keep.cons 0 rfl (Keep.cons 1 rfl (Keep.cons 4 rfl (Keep.cons 5 rfl (Keep.cons 6 rfl (Keep.cons 7 rfl (Keep.cons 14 rfl Keep.nil))))))) ?_
    refine at_retH (fun _ hw => (Chn.closes  hw.front3.front1.front2.drop3.drop3.drop3).front1) Try.func38 (resC1 4 rfl rfl rfl Try.underlying33 rfl (by kernel_rfl) rfl) ?_
    exact ⟨A1, c1, rfl, rfl⟩
theorem take_out (ms : List Msg) (k : Cts) (g : Nat) (b : World) (H : List Asr) (i : Int) (hi : ¬ (0 ≤ i ∧ i < ms.length)) : Fn Try.prog 38 [.pointer (some ⟨g, 0, none⟩), .int .i64 i] b (Chn 42 g ms k :: H) (fun v H' => v = .tuple #[.agg (Enc.cells Msg.zero).toArray, .bool false] ∧ Chn 42 g ms k :: H = H') := by
  refine Chn.fn fun A c => ?_
  refine fn_of_at (by kernel_rfl) Try.func38 rfl Try.ntmps38 rfl rfl ?_
  refine at_seq ?_
  refine at_region ?_
  refine wl_eff rfl rfl rfl (ef_alloc (cs := [.int .i64 0, .int .i64 0, .slice none 0 0]) (z := .agg #[.int .i64 0, .int .i64 0, .slice none 0 0]) rfl (by kernel_rfl) rfl) ?_
  rintro _ _ ⟨g0, rfl, rfl⟩
  refine wl_read rfl rfl rfl (yl_assign rfl rfl) ?_
  refine wl_nil ?_
  refine at_keep (Keep.cons 0 rfl (Keep.cons 1 rfl (Keep.cons 4 rfl (Keep.cons 5 rfl Keep.nil)))) ?_
  refine at_seq ?_
  refine at_region ?_
  refine wl_read rfl rfl rfl (yl_move rfl rfl) ?_
  refine wl_read rfl rfl rfl (yl_move rfl rfl) ?_
  refine wl_call rfl rfl rfl (en_call rfl rfl) (rat_out g _ _ i (CellAt.bk 1 rfl rfl) hi) ?_
  rintro _ _ ⟨rfl, rfl⟩
  refine wl_read rfl rfl rfl (yl_move rfl rfl) ?_
  refine wl_read rfl rfl rfl (yl_extract rfl rfl rfl) ?_
  refine wl_read rfl rfl rfl (yl_extract rfl rfl rfl) ?_
  refine wl_eff rfl rfl rfl (ef_alloc (cs := [.int .i64 0, .int .i64 0, .slice none 0 0]) (z := .agg #[.int .i64 0, .int .i64 0, .slice none 0 0]) rfl (by kernel_rfl) rfl) ?_
  rintro _ _ ⟨g6, rfl, rfl⟩
  refine wl_store rfl rfl (es_at0 (es_storeN 0 rfl rfl rfl rfl (by kernel_rfl) rfl rfl)) ?_
  refine wl_read rfl rfl rfl (yl_assign rfl rfl) ?_
  refine wl_nil ?_
  refine at_keep (Keep.cons 0 rfl (Keep.cons 1 rfl (Keep.cons 4 rfl (Keep.cons 5 rfl (Keep.cons 6 rfl (Keep.cons 7 rfl Keep.nil)))))) ?_
  refine at_seq ?_
  refine at_seq ?_
  refine at_region ?_
  refine wl_read rfl rfl rfl (yl_move rfl rfl) ?_
  refine wl_nil ?_
  refine at_keep (Keep.cons 0 rfl (Keep.cons 1 rfl (Keep.cons 4 rfl (Keep.cons 5 rfl (Keep.cons 6 rfl (Keep.cons 7 rfl (Keep.cons 14 rfl Keep.nil))))))) ?_
  refine at_false rfl ?_
  refine at_skip ?_
  refine at_seq ?_
  refine at_region ?_
  refine wl_read rfl rfl rfl (yl_loadBk 0 rfl rfl rfl Try.underlying33 rfl (by kernel_rfl)) ?_
  refine wl_read rfl rfl rfl (yl_move rfl rfl) ?_
  refine wl_store rfl rfl (es_at1 (es_storeN 1 rfl rfl rfl rfl (by kernel_rfl) rfl rfl)) ?_
  refine wl_read rfl rfl rfl (yl_assign rfl rfl) ?_
  refine wl_nil ?_
  refine at_keep (Keep.cons 0 rfl (Keep.cons 1 rfl (Keep.cons 4 rfl (Keep.cons 5 rfl (Keep.cons 6 rfl (Keep.cons 7 rfl (Keep.cons 14 rfl Keep.nil))))))) ?_
  refine at_retH (fun _ hw => (Chn.closes  hw.front3.front3.drop2.drop2)) Try.func38 (resC1 1 rfl rfl rfl Try.underlying33 rfl (by kernel_rfl) rfl) ?_
  exact ⟨rfl, rfl⟩
theorem remove_nil (i : Int) (b : World) (H : List Asr) : Fn Try.prog 30 [.pointer none, .int .i64 i] b H (fun v H' => v = .tuple #[.agg (Enc.cells Msg.zero).toArray, .bool false] ∧ H = H') := by
  refine fn_of_at (by kernel_rfl) Try.func30 rfl Try.ntmps30 rfl rfl ?_
  refine at_seq ?_
  refine at_region ?_
  refine wl_eff rfl rfl rfl (ef_alloc (cs := [.int .i64 0, .int .i64 0, .slice none 0 0]) (z := .agg #[.int .i64 0, .int .i64 0, .slice none 0 0]) rfl (by kernel_rfl) rfl) ?_
  rintro _ _ ⟨g0, rfl, rfl⟩
  refine wl_read rfl rfl rfl (yl_assign rfl rfl) ?_
  refine wl_nil ?_
  refine at_keep (Keep.cons 0 rfl (Keep.cons 1 rfl (Keep.cons 4 rfl (Keep.cons 5 rfl Keep.nil)))) ?_
  refine at_seq ?_
  refine at_region ?_
  refine wl_read rfl rfl rfl (yl_move rfl rfl) ?_
  refine wl_read rfl rfl rfl (yl_move rfl rfl) ?_
  refine wl_call rfl rfl rfl (en_call rfl rfl) (at_nil 0 _ _ i) ?_
  rintro _ _ ⟨rfl, rfl⟩
  refine wl_read rfl rfl rfl (yl_move rfl rfl) ?_
  refine wl_read rfl rfl rfl (yl_extract rfl rfl rfl) ?_
  refine wl_read rfl rfl rfl (yl_extract rfl rfl rfl) ?_
  refine wl_eff rfl rfl rfl (ef_alloc (cs := [.int .i64 0, .int .i64 0, .slice none 0 0]) (z := .agg #[.int .i64 0, .int .i64 0, .slice none 0 0]) rfl (by kernel_rfl) rfl) ?_
  rintro _ _ ⟨g6, rfl, rfl⟩
  refine wl_store rfl rfl (es_at0 (es_storeN 0 rfl rfl rfl rfl (by kernel_rfl) rfl rfl)) ?_
  refine wl_read rfl rfl rfl (yl_assign rfl rfl) ?_
  refine wl_nil ?_
  refine at_keep (Keep.cons 0 rfl (Keep.cons 1 rfl (Keep.cons 4 rfl (Keep.cons 5 rfl (Keep.cons 6 rfl (Keep.cons 7 rfl Keep.nil)))))) ?_
  refine at_seq ?_
  refine at_seq ?_
  refine at_region ?_
  refine wl_read rfl rfl rfl (yl_move rfl rfl) ?_
  refine wl_nil ?_
  refine at_keep (Keep.cons 0 rfl (Keep.cons 1 rfl (Keep.cons 4 rfl (Keep.cons 5 rfl (Keep.cons 6 rfl (Keep.cons 7 rfl (Keep.cons 14 rfl Keep.nil))))))) ?_
  refine at_false rfl ?_
  refine at_skip ?_
  refine at_seq ?_
  refine at_region ?_
  refine wl_read rfl rfl rfl (yl_loadBk 0 rfl rfl rfl Try.underlying33 rfl (by kernel_rfl)) ?_
  refine wl_read rfl rfl rfl (yl_move rfl rfl) ?_
  refine wl_store rfl rfl (es_at1 (es_storeN 1 rfl rfl rfl rfl (by kernel_rfl) rfl rfl)) ?_
  refine wl_read rfl rfl rfl (yl_assign rfl rfl) ?_
  refine wl_nil ?_
  refine at_keep (Keep.cons 0 rfl (Keep.cons 1 rfl (Keep.cons 4 rfl (Keep.cons 5 rfl (Keep.cons 6 rfl (Keep.cons 7 rfl (Keep.cons 14 rfl Keep.nil))))))) ?_
  refine at_retH (fun _ hw => hw.tail.tail) Try.func30 (resC1 1 rfl rfl rfl Try.underlying33 rfl (by kernel_rfl) rfl) ?_
  exact ⟨rfl, rfl⟩
theorem deliver_fn (ms : List Msg) (k : Cts) (g : Nat) (b : World) (H : List Asr) (j : Nat) (hok : Ok H ms) (hj : j < ms.length) (hk : 0 ≤ k.del ∧ k.del ≤ 1000000) : Fn Try.prog 16 [.pointer (some ⟨g, 0, none⟩), .int .i64 (j : Int)] b (Chn 58 g ms k :: H)
    (fun v H' => ∃ A' c', v = .tuple #[.agg (Enc.cells ((at_ ms j).cp A' c')).toArray, .bool true] ∧ H' = Sl A' c' 5 (at_ ms j).bs :: Chn 58 g (ms.eraseIdx j) { k with del := k.del + 1 } :: H) := by
  have hl := hok.len
  refine fn_of_at (by kernel_rfl) Try.func16 rfl Try.ntmps16 rfl rfl ?_
  refine at_seq ?_
  refine at_region ?_
  refine wl_eff rfl rfl rfl (ef_alloc (cs := [.int .i64 0, .int .i64 0, .slice none 0 0]) (z := .agg #[.int .i64 0, .int .i64 0, .slice none 0 0]) rfl (by kernel_rfl) rfl) ?_
  rintro _ _ ⟨g0, rfl, rfl⟩
  refine wl_read rfl rfl rfl (yl_assign rfl rfl) ?_
  refine wl_nil ?_
  refine at_keep (Keep.cons 0 rfl (Keep.cons 1 rfl (Keep.cons 4 rfl (Keep.cons 5 rfl Keep.nil)))) ?_
  refine at_seq ?_
  refine at_region ?_
  refine wl_read rfl rfl rfl (yl_move rfl rfl) ?_
  refine wl_read rfl rfl rfl (yl_move rfl rfl) ?_
  refine wl_heap (fun _ hw => hw.front1) ?_
  refine wl_call rfl rfl rfl (en_call rfl rfl) (remove_fn ms k g _ _ j (hok.cons _) hj) ?_
  rintro _ _ ⟨A1, c1, rfl, rfl⟩
  refine wl_read rfl rfl rfl (yl_move rfl rfl) ?_
  refine wl_read rfl rfl rfl (yl_extract rfl rfl rfl) ?_
  refine wl_read rfl rfl rfl (yl_extract rfl rfl rfl) ?_
  refine wl_eff rfl rfl rfl (ef_alloc (cs := [.int .i64 0, .int .i64 0, .slice none 0 0]) (z := .agg #[.int .i64 0, .int .i64 0, .slice none 0 0]) rfl (by kernel_rfl) rfl) ?_
  rintro _ _ ⟨g6, rfl, rfl⟩
  refine wl_store rfl rfl (es_at0 (es_storeN 0 rfl rfl rfl rfl (by kernel_rfl) rfl rfl)) ?_
  refine wl_read rfl rfl rfl (yl_assign rfl rfl) ?_
  refine wl_nil ?_
  refine at_keep (Keep.cons 0 rfl (Keep.cons 1 rfl (Keep.cons 4 rfl (Keep.cons 5 rfl (Keep.cons 6 rfl (Keep.cons 7 rfl Keep.nil)))))) ?_
  refine at_seq ?_
  refine at_seq ?_
  refine at_region ?_
  refine wl_read rfl rfl rfl (yl_move rfl rfl) ?_
  refine wl_nil ?_
  refine at_keep (Keep.cons 0 rfl (Keep.cons 1 rfl (Keep.cons 4 rfl (Keep.cons 5 rfl (Keep.cons 6 rfl (Keep.cons 7 rfl (Keep.cons 14 rfl Keep.nil))))))) ?_
  refine at_true rfl ?_
  refine at_heap (fun _ hw => hw.front2) ?_
  refine at_open (fun _ hw => Chn.opens hw) (fun x => ?_)
  obtain ⟨A, c⟩ := x
  refine at_region ?_
  refine wl_read rfl rfl rfl (yl_move rfl rfl) ?_
  refine wl_read rfl rfl rfl (yl_nilCheck rfl rfl) ?_
  refine wl_read rfl rfl rfl (yl_fieldB rfl rfl Try.underlying58 rfl (by kernel_rfl) rfl) ?_
  refine wl_read rfl rfl rfl (yl_load rfl rfl Try.underlying3 rfl (CellAt.bk 0 rfl rfl)) ?_
  refine wl_read rfl rfl rfl (yl_add rfl rfl rfl (w64 (by omega) (by omega))) ?_
  refine wl_read rfl rfl rfl (yl_nilCheck rfl rfl) ?_
  refine wl_read rfl rfl rfl (yl_fieldB rfl rfl Try.underlying58 rfl (by kernel_rfl) rfl) ?_
  refine wl_store rfl rfl (es_at0 (es_store 0 rfl rfl rfl rfl (by kernel_rfl) rfl rfl)) ?_
  refine wl_nil ?_
  refine at_keep (Keep.cons 0 rfl (Keep.cons 1 rfl (Keep.cons 4 rfl (Keep.cons 5 rfl (Keep.cons 6 rfl (Keep.cons 7 rfl (Keep.cons 14 rfl Keep.nil))))))) ?_
  refine at_seq ?_
  refine at_region ?_
  refine wl_read rfl rfl rfl (yl_loadBk 2 rfl rfl rfl Try.underlying33 rfl (by kernel_rfl)) ?_
  refine wl_read rfl rfl rfl (yl_move rfl rfl) ?_
  refine wl_store rfl rfl (es_at4 (es_storeN 4 rfl rfl rfl rfl (by kernel_rfl) rfl rfl)) ?_
  refine wl_read rfl rfl rfl (yl_assign rfl rfl) ?_
  refine wl_nil ?_
  refine at_keep (Keep.cons 0 rfl (Keep.cons 1 rfl (Keep.cons 4 rfl (Keep.cons 5 rfl (Keep.cons 6 rfl (Keep.cons 7 rfl (Keep.cons 14 rfl Keep.nil))))))) ?_
  refine at_retH (fun _ hw => (Chn.closes (k := { k with del := k.del + 1 }) hw.front3.front2.front2.drop3.drop3).front1) Try.func16 (resC1 4 rfl rfl rfl Try.underlying33 rfl (by kernel_rfl) rfl) ?_
  exact ⟨A1, c1, rfl, rfl⟩
theorem deliver_out (ms : List Msg) (k : Cts) (g : Nat) (b : World) (H : List Asr) (i : Int) (hi : ¬ (0 ≤ i ∧ i < ms.length)) : Fn Try.prog 16 [.pointer (some ⟨g, 0, none⟩), .int .i64 i] b (Chn 58 g ms k :: H) (fun v H' => v = .tuple #[.agg (Enc.cells Msg.zero).toArray, .bool false] ∧ Chn 58 g ms k :: H = H') := by
  refine fn_of_at (by kernel_rfl) Try.func16 rfl Try.ntmps16 rfl rfl ?_
  refine at_seq ?_
  refine at_region ?_
  refine wl_eff rfl rfl rfl (ef_alloc (cs := [.int .i64 0, .int .i64 0, .slice none 0 0]) (z := .agg #[.int .i64 0, .int .i64 0, .slice none 0 0]) rfl (by kernel_rfl) rfl) ?_
  rintro _ _ ⟨g0, rfl, rfl⟩
  refine wl_read rfl rfl rfl (yl_assign rfl rfl) ?_
  refine wl_nil ?_
  refine at_keep (Keep.cons 0 rfl (Keep.cons 1 rfl (Keep.cons 4 rfl (Keep.cons 5 rfl Keep.nil)))) ?_
  refine at_seq ?_
  refine at_region ?_
  refine wl_read rfl rfl rfl (yl_move rfl rfl) ?_
  refine wl_read rfl rfl rfl (yl_move rfl rfl) ?_
  refine wl_heap (fun _ hw => hw.front1) ?_
  refine wl_call rfl rfl rfl (en_call rfl rfl) (remove_out ms k g _ _ i hi) ?_
  rintro _ _ ⟨rfl, rfl⟩
  refine wl_read rfl rfl rfl (yl_move rfl rfl) ?_
  refine wl_read rfl rfl rfl (yl_extract rfl rfl rfl) ?_
  refine wl_read rfl rfl rfl (yl_extract rfl rfl rfl) ?_
  refine wl_eff rfl rfl rfl (ef_alloc (cs := [.int .i64 0, .int .i64 0, .slice none 0 0]) (z := .agg #[.int .i64 0, .int .i64 0, .slice none 0 0]) rfl (by kernel_rfl) rfl) ?_
  rintro _ _ ⟨g6, rfl, rfl⟩
  refine wl_store rfl rfl (es_at0 (es_storeN 0 rfl rfl rfl rfl (by kernel_rfl) rfl rfl)) ?_
  refine wl_read rfl rfl rfl (yl_assign rfl rfl) ?_
  refine wl_nil ?_
  refine at_keep (Keep.cons 0 rfl (Keep.cons 1 rfl (Keep.cons 4 rfl (Keep.cons 5 rfl (Keep.cons 6 rfl (Keep.cons 7 rfl Keep.nil)))))) ?_
  refine at_seq ?_
  refine at_seq ?_
  refine at_region ?_
  refine wl_read rfl rfl rfl (yl_move rfl rfl) ?_
  refine wl_nil ?_
  refine at_keep (Keep.cons 0 rfl (Keep.cons 1 rfl (Keep.cons 4 rfl (Keep.cons 5 rfl (Keep.cons 6 rfl (Keep.cons 7 rfl (Keep.cons 14 rfl Keep.nil))))))) ?_
  refine at_false rfl ?_
  refine at_skip ?_
  refine at_seq ?_
  refine at_region ?_
  refine wl_read rfl rfl rfl (yl_loadBk 0 rfl rfl rfl Try.underlying33 rfl (by kernel_rfl)) ?_
  refine wl_read rfl rfl rfl (yl_move rfl rfl) ?_
  refine wl_store rfl rfl (es_at2 (es_storeN 2 rfl rfl rfl rfl (by kernel_rfl) rfl rfl)) ?_
  refine wl_read rfl rfl rfl (yl_assign rfl rfl) ?_
  refine wl_nil ?_
  refine at_keep (Keep.cons 0 rfl (Keep.cons 1 rfl (Keep.cons 4 rfl (Keep.cons 5 rfl (Keep.cons 6 rfl (Keep.cons 7 rfl (Keep.cons 14 rfl Keep.nil))))))) ?_
  refine at_retH (fun _ hw => hw.front1.drop1.drop1) Try.func16 (resC1 2 rfl rfl rfl Try.underlying33 rfl (by kernel_rfl) rfl) ?_
  exact ⟨rfl, rfl⟩
theorem rdeliver_fn (ms : List Msg) (k : Cts) (g : Nat) (b : World) (H : List Asr) (j : Nat) (hok : Ok H ms) (hj : j < ms.length) (hk : 0 ≤ k.del ∧ k.del ≤ 1000000) : Fn Try.prog 31 [.pointer (some ⟨g, 0, none⟩), .int .i64 (j : Int)] b (Chn 42 g ms k :: H)
    (fun v H' => ∃ A' c', v = .tuple #[.agg (Enc.cells ((at_ ms j).cp A' c')).toArray, .bool true] ∧ H' = Sl A' c' 5 (at_ ms j).bs :: Chn 42 g (ms.eraseIdx j) { k with del := k.del + 1 } :: H) := by
  have hl := hok.len
  refine fn_of_at (by kernel_rfl) Try.func31 rfl Try.ntmps31 rfl rfl ?_
  refine at_seq ?_
  refine at_region ?_
  refine wl_eff rfl rfl rfl (ef_alloc (cs := [.int .i64 0, .int .i64 0, .slice none 0 0]) (z := .agg #[.int .i64 0, .int .i64 0, .slice none 0 0]) rfl (by kernel_rfl) rfl) ?_
  rintro _ _ ⟨g0, rfl, rfl⟩
  refine wl_read rfl rfl rfl (yl_assign rfl rfl) ?_
  refine wl_nil ?_
  refine at_keep (Keep.cons 0 rfl (Keep.cons 1 rfl (Keep.cons 4 rfl (Keep.cons 5 rfl Keep.nil)))) ?_
  refine at_seq ?_
  refine at_region ?_
  refine wl_read rfl rfl rfl (yl_move rfl rfl) ?_
  refine wl_read rfl rfl rfl (yl_move rfl rfl) ?_
  refine wl_heap (fun _ hw => hw.front1) ?_
  refine wl_call rfl rfl rfl (en_call rfl rfl) (take_fn ms k g _ _ j (hok.cons _) hj) ?_
  rintro _ _ ⟨A1, c1, rfl, rfl⟩
  refine wl_read rfl rfl rfl (yl_move rfl rfl) ?_
  refine wl_read rfl rfl rfl (yl_extract rfl rfl rfl) ?_
  refine wl_read rfl rfl rfl (yl_extract rfl rfl rfl) ?_
  refine wl_eff rfl rfl rfl (ef_alloc (cs := [.int .i64 0, .int .i64 0, .slice none 0 0]) (z := .agg #[.int .i64 0, .int .i64 0, .slice none 0 0]) rfl (by kernel_rfl) rfl) ?_
  rintro _ _ ⟨g6, rfl, rfl⟩
  refine wl_store rfl rfl (es_at0 (es_storeN 0 rfl rfl rfl rfl (by kernel_rfl) rfl rfl)) ?_
  refine wl_read rfl rfl rfl (yl_assign rfl rfl) ?_
  refine wl_nil ?_
  refine at_keep (Keep.cons 0 rfl (Keep.cons 1 rfl (Keep.cons 4 rfl (Keep.cons 5 rfl (Keep.cons 6 rfl (Keep.cons 7 rfl Keep.nil)))))) ?_
  refine at_seq ?_
  refine at_seq ?_
  refine at_region ?_
  refine wl_read rfl rfl rfl (yl_move rfl rfl) ?_
  refine wl_nil ?_
  refine at_keep (Keep.cons 0 rfl (Keep.cons 1 rfl (Keep.cons 4 rfl (Keep.cons 5 rfl (Keep.cons 6 rfl (Keep.cons 7 rfl (Keep.cons 14 rfl Keep.nil))))))) ?_
  refine at_true rfl ?_
  refine at_heap (fun _ hw => hw.front2) ?_
  refine at_open (fun _ hw => Chn.opens hw) (fun x => ?_)
  obtain ⟨A, c⟩ := x
  refine at_region ?_
  refine wl_read rfl rfl rfl (yl_move rfl rfl) ?_
  refine wl_read rfl rfl rfl (yl_nilCheck rfl rfl) ?_
  refine wl_read rfl rfl rfl (yl_fieldB rfl rfl Try.underlying42 rfl (by kernel_rfl) rfl) ?_
  refine wl_read rfl rfl rfl (yl_load rfl rfl Try.underlying3 rfl (CellAt.bk 0 rfl rfl)) ?_
  refine wl_read rfl rfl rfl (yl_add rfl rfl rfl (w64 (by omega) (by omega))) ?_
  refine wl_read rfl rfl rfl (yl_nilCheck rfl rfl) ?_
  refine wl_read rfl rfl rfl (yl_fieldB rfl rfl Try.underlying42 rfl (by kernel_rfl) rfl) ?_
  refine wl_store rfl rfl (es_at0 (es_store 0 rfl rfl rfl rfl (by kernel_rfl) rfl rfl)) ?_
  refine wl_nil ?_
  refine at_keep (Keep.cons 0 rfl (Keep.cons 1 rfl (Keep.cons 4 rfl (Keep.cons 5 rfl (Keep.cons 6 rfl (Keep.cons 7 rfl (Keep.cons 14 rfl Keep.nil))))))) ?_
  refine at_seq ?_
  refine at_region ?_
  refine wl_read rfl rfl rfl (yl_loadBk 2 rfl rfl rfl Try.underlying33 rfl (by kernel_rfl)) ?_
  refine wl_read rfl rfl rfl (yl_move rfl rfl) ?_
  refine wl_store rfl rfl (es_at4 (es_storeN 4 rfl rfl rfl rfl (by kernel_rfl) rfl rfl)) ?_
  refine wl_read rfl rfl rfl (yl_assign rfl rfl) ?_
  refine wl_nil ?_
  refine at_keep (Keep.cons 0 rfl (Keep.cons 1 rfl (Keep.cons 4 rfl (Keep.cons 5 rfl (Keep.cons 6 rfl (Keep.cons 7 rfl (Keep.cons 14 rfl Keep.nil))))))) ?_
  refine at_retH (fun _ hw => (Chn.closes (k := { k with del := k.del + 1 }) hw.front3.front2.front2.drop3.drop3).front1) Try.func31 (resC1 4 rfl rfl rfl Try.underlying33 rfl (by kernel_rfl) rfl) ?_
  exact ⟨A1, c1, rfl, rfl⟩
theorem rdeliver_out (ms : List Msg) (k : Cts) (g : Nat) (b : World) (H : List Asr) (i : Int) (hi : ¬ (0 ≤ i ∧ i < ms.length)) : Fn Try.prog 31 [.pointer (some ⟨g, 0, none⟩), .int .i64 i] b (Chn 42 g ms k :: H) (fun v H' => v = .tuple #[.agg (Enc.cells Msg.zero).toArray, .bool false] ∧ Chn 42 g ms k :: H = H') := by
  refine fn_of_at (by kernel_rfl) Try.func31 rfl Try.ntmps31 rfl rfl ?_
  refine at_seq ?_
  refine at_region ?_
  refine wl_eff rfl rfl rfl (ef_alloc (cs := [.int .i64 0, .int .i64 0, .slice none 0 0]) (z := .agg #[.int .i64 0, .int .i64 0, .slice none 0 0]) rfl (by kernel_rfl) rfl) ?_
  rintro _ _ ⟨g0, rfl, rfl⟩
  refine wl_read rfl rfl rfl (yl_assign rfl rfl) ?_
  refine wl_nil ?_
  refine at_keep (Keep.cons 0 rfl (Keep.cons 1 rfl (Keep.cons 4 rfl (Keep.cons 5 rfl Keep.nil)))) ?_
  refine at_seq ?_
  refine at_region ?_
  refine wl_read rfl rfl rfl (yl_move rfl rfl) ?_
  refine wl_read rfl rfl rfl (yl_move rfl rfl) ?_
  refine wl_heap (fun _ hw => hw.front1) ?_
  refine wl_call rfl rfl rfl (en_call rfl rfl) (take_out ms k g _ _ i hi) ?_
  rintro _ _ ⟨rfl, rfl⟩
  refine wl_read rfl rfl rfl (yl_move rfl rfl) ?_
  refine wl_read rfl rfl rfl (yl_extract rfl rfl rfl) ?_
  refine wl_read rfl rfl rfl (yl_extract rfl rfl rfl) ?_
  refine wl_eff rfl rfl rfl (ef_alloc (cs := [.int .i64 0, .int .i64 0, .slice none 0 0]) (z := .agg #[.int .i64 0, .int .i64 0, .slice none 0 0]) rfl (by kernel_rfl) rfl) ?_
  rintro _ _ ⟨g6, rfl, rfl⟩
  refine wl_store rfl rfl (es_at0 (es_storeN 0 rfl rfl rfl rfl (by kernel_rfl) rfl rfl)) ?_
  refine wl_read rfl rfl rfl (yl_assign rfl rfl) ?_
  refine wl_nil ?_
  refine at_keep (Keep.cons 0 rfl (Keep.cons 1 rfl (Keep.cons 4 rfl (Keep.cons 5 rfl (Keep.cons 6 rfl (Keep.cons 7 rfl Keep.nil)))))) ?_
  refine at_seq ?_
  refine at_seq ?_
  refine at_region ?_
  refine wl_read rfl rfl rfl (yl_move rfl rfl) ?_
  refine wl_nil ?_
  refine at_keep (Keep.cons 0 rfl (Keep.cons 1 rfl (Keep.cons 4 rfl (Keep.cons 5 rfl (Keep.cons 6 rfl (Keep.cons 7 rfl (Keep.cons 14 rfl Keep.nil))))))) ?_
  refine at_false rfl ?_
  refine at_skip ?_
  refine at_seq ?_
  refine at_region ?_
  refine wl_read rfl rfl rfl (yl_loadBk 0 rfl rfl rfl Try.underlying33 rfl (by kernel_rfl)) ?_
  refine wl_read rfl rfl rfl (yl_move rfl rfl) ?_
  refine wl_store rfl rfl (es_at2 (es_storeN 2 rfl rfl rfl rfl (by kernel_rfl) rfl rfl)) ?_
  refine wl_read rfl rfl rfl (yl_assign rfl rfl) ?_
  refine wl_nil ?_
  refine at_keep (Keep.cons 0 rfl (Keep.cons 1 rfl (Keep.cons 4 rfl (Keep.cons 5 rfl (Keep.cons 6 rfl (Keep.cons 7 rfl (Keep.cons 14 rfl Keep.nil))))))) ?_
  refine at_retH (fun _ hw => hw.front1.drop1.drop1) Try.func31 (resC1 2 rfl rfl rfl Try.underlying33 rfl (by kernel_rfl) rfl) ?_
  exact ⟨rfl, rfl⟩
theorem deliver_nil (i : Int) (b : World) (H : List Asr) : Fn Try.prog 16 [.pointer none, .int .i64 i] b H (fun v H' => v = .tuple #[.agg (Enc.cells Msg.zero).toArray, .bool false] ∧ H = H') := by
  refine fn_of_at (by kernel_rfl) Try.func16 rfl Try.ntmps16 rfl rfl ?_
  refine at_seq ?_
  refine at_region ?_
  refine wl_eff rfl rfl rfl (ef_alloc (cs := [.int .i64 0, .int .i64 0, .slice none 0 0]) (z := .agg #[.int .i64 0, .int .i64 0, .slice none 0 0]) rfl (by kernel_rfl) rfl) ?_
  rintro _ _ ⟨g0, rfl, rfl⟩
  refine wl_read rfl rfl rfl (yl_assign rfl rfl) ?_
  refine wl_nil ?_
  refine at_keep (Keep.cons 0 rfl (Keep.cons 1 rfl (Keep.cons 4 rfl (Keep.cons 5 rfl Keep.nil)))) ?_
  refine at_seq ?_
  refine at_region ?_
  refine wl_read rfl rfl rfl (yl_move rfl rfl) ?_
  refine wl_read rfl rfl rfl (yl_move rfl rfl) ?_
  refine wl_call rfl rfl rfl (en_call rfl rfl) (remove_nil i _ _) ?_
  rintro _ _ ⟨rfl, rfl⟩
  refine wl_read rfl rfl rfl (yl_move rfl rfl) ?_
  refine wl_read rfl rfl rfl (yl_extract rfl rfl rfl) ?_
  refine wl_read rfl rfl rfl (yl_extract rfl rfl rfl) ?_
  refine wl_eff rfl rfl rfl (ef_alloc (cs := [.int .i64 0, .int .i64 0, .slice none 0 0]) (z := .agg #[.int .i64 0, .int .i64 0, .slice none 0 0]) rfl (by kernel_rfl) rfl) ?_
  rintro _ _ ⟨g6, rfl, rfl⟩
  refine wl_store rfl rfl (es_at0 (es_storeN 0 rfl rfl rfl rfl (by kernel_rfl) rfl rfl)) ?_
  refine wl_read rfl rfl rfl (yl_assign rfl rfl) ?_
  refine wl_nil ?_
  refine at_keep (Keep.cons 0 rfl (Keep.cons 1 rfl (Keep.cons 4 rfl (Keep.cons 5 rfl (Keep.cons 6 rfl (Keep.cons 7 rfl Keep.nil)))))) ?_
  refine at_seq ?_
  refine at_seq ?_
  refine at_region ?_
  refine wl_read rfl rfl rfl (yl_move rfl rfl) ?_
  refine wl_nil ?_
  refine at_keep (Keep.cons 0 rfl (Keep.cons 1 rfl (Keep.cons 4 rfl (Keep.cons 5 rfl (Keep.cons 6 rfl (Keep.cons 7 rfl (Keep.cons 14 rfl Keep.nil))))))) ?_
  refine at_false rfl ?_
  refine at_skip ?_
  refine at_seq ?_
  refine at_region ?_
  refine wl_read rfl rfl rfl (yl_loadBk 0 rfl rfl rfl Try.underlying33 rfl (by kernel_rfl)) ?_
  refine wl_read rfl rfl rfl (yl_move rfl rfl) ?_
  refine wl_store rfl rfl (es_at1 (es_storeN 1 rfl rfl rfl rfl (by kernel_rfl) rfl rfl)) ?_
  refine wl_read rfl rfl rfl (yl_assign rfl rfl) ?_
  refine wl_nil ?_
  refine at_keep (Keep.cons 0 rfl (Keep.cons 1 rfl (Keep.cons 4 rfl (Keep.cons 5 rfl (Keep.cons 6 rfl (Keep.cons 7 rfl (Keep.cons 14 rfl Keep.nil))))))) ?_
  refine at_retH (fun _ hw => hw.tail.tail) Try.func16 (resC1 1 rfl rfl rfl Try.underlying33 rfl (by kernel_rfl) rfl) ?_
  exact ⟨rfl, rfl⟩
theorem lose_fn (ms : List Msg) (k : Cts) (g : Nat) (b : World) (H : List Asr) (j : Nat) (hok : Ok H ms) (hj : j < ms.length) (hk : 0 ≤ k.lost ∧ k.lost ≤ 1000000) : Fn Try.prog 24 [.pointer (some ⟨g, 0, none⟩), .int .i64 (j : Int)] b (Chn 58 g ms k :: H) (fun v H' => v = .bool true ∧ Chn 58 g (ms.eraseIdx j) { k with lost := k.lost + 1 } :: H = H') := by
  refine fn_of_at (by kernel_rfl) Try.func24 rfl Try.ntmps24 rfl rfl ?_
  refine at_seq ?_
  refine at_region ?_
  refine wl_read rfl rfl rfl (yl_assign rfl rfl) ?_
  refine wl_nil ?_
  refine at_keep (Keep.cons 0 rfl (Keep.cons 1 rfl (Keep.cons 4 rfl Keep.nil))) ?_
  refine at_seq ?_
  refine at_region ?_
  refine wl_read rfl rfl rfl (yl_move rfl rfl) ?_
  refine wl_read rfl rfl rfl (yl_move rfl rfl) ?_
  refine wl_call rfl rfl rfl (en_call rfl rfl) (remove_fn ms k g _ _ j hok hj) ?_
  rintro _ _ ⟨A1, c1, rfl, rfl⟩
  refine wl_read rfl rfl rfl (yl_move rfl rfl) ?_
  refine wl_read rfl rfl rfl (yl_extract rfl rfl rfl) ?_
  refine wl_read rfl rfl rfl (yl_extract rfl rfl rfl) ?_
  refine wl_eff rfl rfl rfl (ef_alloc (cs := [.int .i64 0, .int .i64 0, .slice none 0 0]) (z := .agg #[.int .i64 0, .int .i64 0, .slice none 0 0]) rfl (by kernel_rfl) rfl) ?_
  rintro _ _ ⟨g6, rfl, rfl⟩
  refine wl_store rfl rfl (es_at0 (es_storeN 0 rfl rfl rfl rfl (by kernel_rfl) rfl rfl)) ?_
  refine wl_read rfl rfl rfl (yl_assign rfl rfl) ?_
  refine wl_nil ?_
  refine at_keep (Keep.cons 0 rfl (Keep.cons 1 rfl (Keep.cons 4 rfl (Keep.cons 6 rfl Keep.nil)))) ?_
  refine at_seq ?_
  refine at_seq ?_
  refine at_region ?_
  refine wl_read rfl rfl rfl (yl_move rfl rfl) ?_
  refine wl_nil ?_
  refine at_keep (Keep.cons 0 rfl (Keep.cons 1 rfl (Keep.cons 4 rfl (Keep.cons 6 rfl (Keep.cons 13 rfl Keep.nil))))) ?_
  refine at_true rfl ?_
  refine at_heap (fun _ hw => hw.front2) ?_
  refine at_open (fun _ hw => Chn.opens hw) (fun x => ?_)
  obtain ⟨A, c⟩ := x
  refine at_region ?_
  refine wl_read rfl rfl rfl (yl_move rfl rfl) ?_
  refine wl_read rfl rfl rfl (yl_nilCheck rfl rfl) ?_
  refine wl_read rfl rfl rfl (yl_fieldB rfl rfl Try.underlying58 rfl (by kernel_rfl) rfl) ?_
  refine wl_read rfl rfl rfl (yl_load rfl rfl Try.underlying3 rfl (CellAt.bk 0 rfl rfl)) ?_
  refine wl_read rfl rfl rfl (yl_add rfl rfl rfl (w64 (by omega) (by omega))) ?_
  refine wl_read rfl rfl rfl (yl_nilCheck rfl rfl) ?_
  refine wl_read rfl rfl rfl (yl_fieldB rfl rfl Try.underlying58 rfl (by kernel_rfl) rfl) ?_
  refine wl_store rfl rfl (es_at0 (es_store 0 rfl rfl rfl rfl (by kernel_rfl) rfl rfl)) ?_
  refine wl_nil ?_
  refine at_keep (Keep.cons 0 rfl (Keep.cons 1 rfl (Keep.cons 4 rfl (Keep.cons 6 rfl (Keep.cons 13 rfl Keep.nil))))) ?_
  refine at_seq ?_
  refine at_region ?_
  refine wl_read rfl rfl rfl (yl_move rfl rfl) ?_
  refine wl_read rfl rfl rfl (yl_assign rfl rfl) ?_
  refine wl_nil ?_
  refine at_keep (Keep.cons 0 rfl (Keep.cons 1 rfl (Keep.cons 4 rfl (Keep.cons 6 rfl (Keep.cons 13 rfl Keep.nil))))) ?_
  refine at_retH (fun _ hw => (Chn.closes (k := { k with lost := k.lost + 1 }) hw.front1.front1.drop2.drop2)) Try.func24 (res1 rfl rfl) ?_
  exact ⟨rfl, rfl⟩
theorem lose_out (ms : List Msg) (k : Cts) (g : Nat) (b : World) (H : List Asr) (i : Int) (hi : ¬ (0 ≤ i ∧ i < ms.length)) : Fn Try.prog 24 [.pointer (some ⟨g, 0, none⟩), .int .i64 i] b (Chn 58 g ms k :: H) (fun v H' => v = .bool false ∧ Chn 58 g ms k :: H = H') := by
  refine fn_of_at (by kernel_rfl) Try.func24 rfl Try.ntmps24 rfl rfl ?_
  refine at_seq ?_
  refine at_region ?_
  refine wl_read rfl rfl rfl (yl_assign rfl rfl) ?_
  refine wl_nil ?_
  refine at_keep (Keep.cons 0 rfl (Keep.cons 1 rfl (Keep.cons 4 rfl Keep.nil))) ?_
  refine at_seq ?_
  refine at_region ?_
  refine wl_read rfl rfl rfl (yl_move rfl rfl) ?_
  refine wl_read rfl rfl rfl (yl_move rfl rfl) ?_
  refine wl_call rfl rfl rfl (en_call rfl rfl) (remove_out ms k g _ _ i hi) ?_
  rintro _ _ ⟨rfl, rfl⟩
  refine wl_read rfl rfl rfl (yl_move rfl rfl) ?_
  refine wl_read rfl rfl rfl (yl_extract rfl rfl rfl) ?_
  refine wl_read rfl rfl rfl (yl_extract rfl rfl rfl) ?_
  refine wl_eff rfl rfl rfl (ef_alloc (cs := [.int .i64 0, .int .i64 0, .slice none 0 0]) (z := .agg #[.int .i64 0, .int .i64 0, .slice none 0 0]) rfl (by kernel_rfl) rfl) ?_
  rintro _ _ ⟨g6, rfl, rfl⟩
  refine wl_store rfl rfl (es_at0 (es_storeN 0 rfl rfl rfl rfl (by kernel_rfl) rfl rfl)) ?_
  refine wl_read rfl rfl rfl (yl_assign rfl rfl) ?_
  refine wl_nil ?_
  refine at_keep (Keep.cons 0 rfl (Keep.cons 1 rfl (Keep.cons 4 rfl (Keep.cons 6 rfl Keep.nil)))) ?_
  refine at_seq ?_
  refine at_seq ?_
  refine at_region ?_
  refine wl_read rfl rfl rfl (yl_move rfl rfl) ?_
  refine wl_nil ?_
  refine at_keep (Keep.cons 0 rfl (Keep.cons 1 rfl (Keep.cons 4 rfl (Keep.cons 6 rfl (Keep.cons 13 rfl Keep.nil))))) ?_
  refine at_false rfl ?_
  refine at_skip ?_
  refine at_seq ?_
  refine at_region ?_
  refine wl_read rfl rfl rfl (yl_move rfl rfl) ?_
  refine wl_read rfl rfl rfl (yl_assign rfl rfl) ?_
  refine wl_nil ?_
  refine at_keep (Keep.cons 0 rfl (Keep.cons 1 rfl (Keep.cons 4 rfl (Keep.cons 6 rfl (Keep.cons 13 rfl Keep.nil))))) ?_
  refine at_retH (fun _ hw => hw.front1.drop1) Try.func24 (res1 rfl rfl) ?_
  exact ⟨rfl, rfl⟩
theorem rlose_fn (ms : List Msg) (k : Cts) (g : Nat) (b : World) (H : List Asr) (j : Nat) (hok : Ok H ms) (hj : j < ms.length) (hk : 0 ≤ k.lost ∧ k.lost ≤ 1000000) : Fn Try.prog 32 [.pointer (some ⟨g, 0, none⟩), .int .i64 (j : Int)] b (Chn 42 g ms k :: H) (fun v H' => v = .bool true ∧ Chn 42 g (ms.eraseIdx j) { k with lost := k.lost + 1 } :: H = H') := by
  refine fn_of_at (by kernel_rfl) Try.func32 rfl Try.ntmps32 rfl rfl ?_
  refine at_seq ?_
  refine at_region ?_
  refine wl_read rfl rfl rfl (yl_assign rfl rfl) ?_
  refine wl_nil ?_
  refine at_keep (Keep.cons 0 rfl (Keep.cons 1 rfl (Keep.cons 4 rfl Keep.nil))) ?_
  refine at_seq ?_
  refine at_region ?_
  refine wl_read rfl rfl rfl (yl_move rfl rfl) ?_
  refine wl_read rfl rfl rfl (yl_move rfl rfl) ?_
  refine wl_call rfl rfl rfl (en_call rfl rfl) (take_fn ms k g _ _ j hok hj) ?_
  rintro _ _ ⟨A1, c1, rfl, rfl⟩
  refine wl_read rfl rfl rfl (yl_move rfl rfl) ?_
  refine wl_read rfl rfl rfl (yl_extract rfl rfl rfl) ?_
  refine wl_read rfl rfl rfl (yl_extract rfl rfl rfl) ?_
  refine wl_eff rfl rfl rfl (ef_alloc (cs := [.int .i64 0, .int .i64 0, .slice none 0 0]) (z := .agg #[.int .i64 0, .int .i64 0, .slice none 0 0]) rfl (by kernel_rfl) rfl) ?_
  rintro _ _ ⟨g6, rfl, rfl⟩
  refine wl_store rfl rfl (es_at0 (es_storeN 0 rfl rfl rfl rfl (by kernel_rfl) rfl rfl)) ?_
  refine wl_read rfl rfl rfl (yl_assign rfl rfl) ?_
  refine wl_nil ?_
  refine at_keep (Keep.cons 0 rfl (Keep.cons 1 rfl (Keep.cons 4 rfl (Keep.cons 6 rfl Keep.nil)))) ?_
  refine at_seq ?_
  refine at_seq ?_
  refine at_region ?_
  refine wl_read rfl rfl rfl (yl_move rfl rfl) ?_
  refine wl_nil ?_
  refine at_keep (Keep.cons 0 rfl (Keep.cons 1 rfl (Keep.cons 4 rfl (Keep.cons 6 rfl (Keep.cons 13 rfl Keep.nil))))) ?_
  refine at_true rfl ?_
  refine at_heap (fun _ hw => hw.front2) ?_
  refine at_open (fun _ hw => Chn.opens hw) (fun x => ?_)
  obtain ⟨A, c⟩ := x
  refine at_region ?_
  refine wl_read rfl rfl rfl (yl_move rfl rfl) ?_
  refine wl_read rfl rfl rfl (yl_nilCheck rfl rfl) ?_
  refine wl_read rfl rfl rfl (yl_fieldB rfl rfl Try.underlying42 rfl (by kernel_rfl) rfl) ?_
  refine wl_read rfl rfl rfl (yl_load rfl rfl Try.underlying3 rfl (CellAt.bk 0 rfl rfl)) ?_
  refine wl_read rfl rfl rfl (yl_add rfl rfl rfl (w64 (by omega) (by omega))) ?_
  refine wl_read rfl rfl rfl (yl_nilCheck rfl rfl) ?_
  refine wl_read rfl rfl rfl (yl_fieldB rfl rfl Try.underlying42 rfl (by kernel_rfl) rfl) ?_
  refine wl_store rfl rfl (es_at0 (es_store 0 rfl rfl rfl rfl (by kernel_rfl) rfl rfl)) ?_
  refine wl_nil ?_
  refine at_keep (Keep.cons 0 rfl (Keep.cons 1 rfl (Keep.cons 4 rfl (Keep.cons 6 rfl (Keep.cons 13 rfl Keep.nil))))) ?_
  refine at_seq ?_
  refine at_region ?_
  refine wl_read rfl rfl rfl (yl_move rfl rfl) ?_
  refine wl_read rfl rfl rfl (yl_assign rfl rfl) ?_
  refine wl_nil ?_
  refine at_keep (Keep.cons 0 rfl (Keep.cons 1 rfl (Keep.cons 4 rfl (Keep.cons 6 rfl (Keep.cons 13 rfl Keep.nil))))) ?_
  refine at_retH (fun _ hw => (Chn.closes (k := { k with lost := k.lost + 1 }) hw.front1.front1.drop2.drop2)) Try.func32 (res1 rfl rfl) ?_
  exact ⟨rfl, rfl⟩
theorem rlose_out (ms : List Msg) (k : Cts) (g : Nat) (b : World) (H : List Asr) (i : Int) (hi : ¬ (0 ≤ i ∧ i < ms.length)) : Fn Try.prog 32 [.pointer (some ⟨g, 0, none⟩), .int .i64 i] b (Chn 42 g ms k :: H) (fun v H' => v = .bool false ∧ Chn 42 g ms k :: H = H') := by
  refine fn_of_at (by kernel_rfl) Try.func32 rfl Try.ntmps32 rfl rfl ?_
  refine at_seq ?_
  refine at_region ?_
  refine wl_read rfl rfl rfl (yl_assign rfl rfl) ?_
  refine wl_nil ?_
  refine at_keep (Keep.cons 0 rfl (Keep.cons 1 rfl (Keep.cons 4 rfl Keep.nil))) ?_
  refine at_seq ?_
  refine at_region ?_
  refine wl_read rfl rfl rfl (yl_move rfl rfl) ?_
  refine wl_read rfl rfl rfl (yl_move rfl rfl) ?_
  refine wl_call rfl rfl rfl (en_call rfl rfl) (take_out ms k g _ _ i hi) ?_
  rintro _ _ ⟨rfl, rfl⟩
  refine wl_read rfl rfl rfl (yl_move rfl rfl) ?_
  refine wl_read rfl rfl rfl (yl_extract rfl rfl rfl) ?_
  refine wl_read rfl rfl rfl (yl_extract rfl rfl rfl) ?_
  refine wl_eff rfl rfl rfl (ef_alloc (cs := [.int .i64 0, .int .i64 0, .slice none 0 0]) (z := .agg #[.int .i64 0, .int .i64 0, .slice none 0 0]) rfl (by kernel_rfl) rfl) ?_
  rintro _ _ ⟨g6, rfl, rfl⟩
  refine wl_store rfl rfl (es_at0 (es_storeN 0 rfl rfl rfl rfl (by kernel_rfl) rfl rfl)) ?_
  refine wl_read rfl rfl rfl (yl_assign rfl rfl) ?_
  refine wl_nil ?_
  refine at_keep (Keep.cons 0 rfl (Keep.cons 1 rfl (Keep.cons 4 rfl (Keep.cons 6 rfl Keep.nil)))) ?_
  refine at_seq ?_
  refine at_seq ?_
  refine at_region ?_
  refine wl_read rfl rfl rfl (yl_move rfl rfl) ?_
  refine wl_nil ?_
  refine at_keep (Keep.cons 0 rfl (Keep.cons 1 rfl (Keep.cons 4 rfl (Keep.cons 6 rfl (Keep.cons 13 rfl Keep.nil))))) ?_
  refine at_false rfl ?_
  refine at_skip ?_
  refine at_seq ?_
  refine at_region ?_
  refine wl_read rfl rfl rfl (yl_move rfl rfl) ?_
  refine wl_read rfl rfl rfl (yl_assign rfl rfl) ?_
  refine wl_nil ?_
  refine at_keep (Keep.cons 0 rfl (Keep.cons 1 rfl (Keep.cons 4 rfl (Keep.cons 6 rfl (Keep.cons 13 rfl Keep.nil))))) ?_
  refine at_retH (fun _ hw => hw.front1.drop1) Try.func32 (res1 rfl rfl) ?_
  exact ⟨rfl, rfl⟩
theorem lose_nil (i : Int) (b : World) (H : List Asr) : Fn Try.prog 24 [.pointer none, .int .i64 i] b H (fun v H' => v = .bool false ∧ H = H') := by
  refine fn_of_at (by kernel_rfl) Try.func24 rfl Try.ntmps24 rfl rfl ?_
  refine at_seq ?_
  refine at_region ?_
  refine wl_read rfl rfl rfl (yl_assign rfl rfl) ?_
  refine wl_nil ?_
  refine at_keep (Keep.cons 0 rfl (Keep.cons 1 rfl (Keep.cons 4 rfl Keep.nil))) ?_
  refine at_seq ?_
  refine at_region ?_
  refine wl_read rfl rfl rfl (yl_move rfl rfl) ?_
  refine wl_read rfl rfl rfl (yl_move rfl rfl) ?_
  refine wl_call rfl rfl rfl (en_call rfl rfl) (remove_nil i _ _) ?_
  rintro _ _ ⟨rfl, rfl⟩
  refine wl_read rfl rfl rfl (yl_move rfl rfl) ?_
  refine wl_read rfl rfl rfl (yl_extract rfl rfl rfl) ?_
  refine wl_read rfl rfl rfl (yl_extract rfl rfl rfl) ?_
  refine wl_eff rfl rfl rfl (ef_alloc (cs := [.int .i64 0, .int .i64 0, .slice none 0 0]) (z := .agg #[.int .i64 0, .int .i64 0, .slice none 0 0]) rfl (by kernel_rfl) rfl) ?_
  rintro _ _ ⟨g6, rfl, rfl⟩
  refine wl_store rfl rfl (es_at0 (es_storeN 0 rfl rfl rfl rfl (by kernel_rfl) rfl rfl)) ?_
  refine wl_read rfl rfl rfl (yl_assign rfl rfl) ?_
  refine wl_nil ?_
  refine at_keep (Keep.cons 0 rfl (Keep.cons 1 rfl (Keep.cons 4 rfl (Keep.cons 6 rfl Keep.nil)))) ?_
  refine at_seq ?_
  refine at_seq ?_
  refine at_region ?_
  refine wl_read rfl rfl rfl (yl_move rfl rfl) ?_
  refine wl_nil ?_
  refine at_keep (Keep.cons 0 rfl (Keep.cons 1 rfl (Keep.cons 4 rfl (Keep.cons 6 rfl (Keep.cons 13 rfl Keep.nil))))) ?_
  refine at_false rfl ?_
  refine at_skip ?_
  refine at_seq ?_
  refine at_region ?_
  refine wl_read rfl rfl rfl (yl_move rfl rfl) ?_
  refine wl_read rfl rfl rfl (yl_assign rfl rfl) ?_
  refine wl_nil ?_
  refine at_keep (Keep.cons 0 rfl (Keep.cons 1 rfl (Keep.cons 4 rfl (Keep.cons 6 rfl (Keep.cons 13 rfl Keep.nil))))) ?_
  refine at_retH (fun _ hw => hw.tail) Try.func24 (res1 rfl rfl) ?_
  exact ⟨rfl, rfl⟩
end Go.Proofs.Ytcpcgllkdpfacaa

/- Walks of the laws: prefixes, interruptions, greater amounts. -/
import Derived.Test.YteckaphnapljnaaS1
namespace Go.Proofs.Yteckaphnapljnaa
open Go
theorem run_okL {s : List Stage} {n : Nat} {A : Option Addr} {c : Nat} {b : World} {H : List Asr} (hv : Valid s) (hn : s.length = n) (hR : Rd H A s) : Fn Try.prog 15 [.slice A n c] b H (fun v H' => ∃ A' c', v = .tuple #[.slice A' (run s).length c', .int .i64 0] ∧ H' = Sl A' c' 32 (run s) :: H) := by
  subst hn; exact run_ok hv hR

theorem info40 : (Try.prog.info? 40).map (fun i => (i.zero, i.size, i.bytes)) = some (some (.agg #[.bool false, .bool false, .int .i64 0]), Enc.size Raw, 16) := by kernel_rfl


theorem law10 (l : List Raw) (A : Option Addr) (c : Nat) (month : Int) (n : Int) (b : World) (H : List Asr) (hR : Rd H A l) (hl : l.length ≤ 140737488355328) (ha : ∀ i, i < l.length → I64 (at_ l i).amount) : Fn Try.prog 10 [.slice A l.length c, .int .i64 month, .int .i64 n] b H (fun v H' => v = .bool true ∧ H = H') := by
  obtain ⟨s, hs⟩ : ∃ s, s = stages l month := ⟨_, rfl⟩
  have hv : Valid s := hs ▸ stages_valid l month
  have hl120 := hv.1
  have hmd := md_bd n ((s.length : Int) + 1) (by omega)
  refine fn_of_at (by kernel_rfl) Try.func10 rfl Try.ntmps10 rfl rfl ?_
  refine at_seq ?_
  refine at_region ?_
  refine wl_read rfl rfl rfl (yl_assign rfl rfl) ?_
  refine wl_nil ?_
  refine at_keep (Keep.cons 0 rfl (Keep.cons 1 rfl (Keep.cons 2 rfl (Keep.cons 6 rfl Keep.nil)))) ?_
  refine at_seq ?_
  refine at_region ?_
  refine wl_read rfl rfl rfl (yl_move rfl rfl) ?_
  refine wl_read rfl rfl rfl (yl_move rfl rfl) ?_
  refine wl_call rfl rfl rfl (en_call rfl rfl) (stages_fnS hs hR hl ha) ?_
  rintro _ _ ⟨A1, c1, rfl, rfl⟩
  refine wl_read rfl rfl rfl (yl_assign rfl rfl) ?_
  refine wl_nil ?_
  refine at_keep (Keep.cons 0 rfl (Keep.cons 1 rfl (Keep.cons 2 rfl (Keep.cons 6 rfl (Keep.cons 7 rfl Keep.nil))))) ?_
  refine at_seq ?_
  refine at_region ?_
  refine wl_read rfl rfl rfl (yl_move rfl rfl) ?_
  refine wl_read rfl rfl rfl (yl_move rfl rfl) ?_
  refine wl_read rfl rfl rfl (yl_len rfl rfl Try.underlying23) ?_
  refine wl_read rfl rfl rfl (yl_add rfl rfl rfl (w64 (by omega) (by omega))) ?_
  refine wl_call rfl rfl rfl (en_call rfl rfl) (mod_fn _ _ _ _ (by omega) (by omega)) ?_
  rintro _ _ ⟨rfl, rfl⟩
  refine wl_read rfl rfl rfl (yl_assign rfl rfl) ?_
  refine wl_nil ?_
  refine at_keep (Keep.cons 0 rfl (Keep.cons 1 rfl (Keep.cons 2 rfl (Keep.cons 6 rfl (Keep.cons 7 rfl (Keep.cons 8 rfl Keep.nil)))))) ?_
  refine at_seq ?_
  obtain ⟨j, hj⟩ : ∃ j : Nat, md n ((s.length : Int) + 1) = (j : Int) := ⟨_, (Int.toNat_of_nonneg hmd.1).symm⟩
  rw [hj]
  rw [hj] at hmd
  have hjl : j ≤ s.length := by omega
  have hvt := take_valid s j hv
  refine at_region ?_
  refine wl_read rfl rfl rfl (yl_move rfl rfl) ?_
  refine wl_call rfl rfl rfl (en_call rfl rfl) (run_ok hv (Rd.of_sl 0 rfl)) ?_
  rintro _ _ ⟨A2, c2, rfl, rfl⟩
  refine wl_read rfl rfl rfl (yl_move rfl rfl) ?_
  refine wl_read rfl rfl rfl (yl_extract rfl rfl rfl) ?_
  refine wl_read rfl rfl rfl (yl_extract rfl rfl rfl) ?_
  refine wl_read rfl rfl rfl (yl_assign rfl rfl) ?_
  refine wl_read rfl rfl rfl (yl_assign rfl rfl) ?_
  refine wl_nil ?_
  refine at_keep (Keep.cons 0 rfl (Keep.cons 1 rfl (Keep.cons 2 rfl (Keep.cons 6 rfl (Keep.cons 7 rfl (Keep.cons 8 rfl (Keep.cons 9 rfl (Keep.cons 10 rfl Keep.nil)))))))) ?_
  refine at_seq ?_
  refine at_region ?_
  refine wl_read rfl rfl rfl (yl_move rfl rfl) ?_
  refine wl_read rfl rfl rfl (yl_move rfl rfl) ?_
  refine wl_know (fun _ hw => hw.slCap 1 rfl) (fun hcap => ?_)
  refine wl_read rfl rfl rfl (yl_sliceH (xs := s) (j := j) rfl rfl rfl rfl hjl hcap Try.underlying23 (by kernel_rfl) rfl) ?_
  refine wl_call rfl rfl rfl (en_call rfl rfl) (run_ok hvt ((Rd.of_sl 1 rfl).take j)) ?_
  rintro _ _ ⟨A3, c3, rfl, rfl⟩
  refine wl_read rfl rfl rfl (yl_move rfl rfl) ?_
  refine wl_read rfl rfl rfl (yl_extract rfl rfl rfl) ?_
  refine wl_read rfl rfl rfl (yl_extract rfl rfl rfl) ?_
  refine wl_read rfl rfl rfl (yl_assign rfl rfl) ?_
  refine wl_read rfl rfl rfl (yl_assign rfl rfl) ?_
  refine wl_nil ?_
  refine at_keep (Keep.cons 0 rfl (Keep.cons 1 rfl (Keep.cons 2 rfl (Keep.cons 6 rfl (Keep.cons 7 rfl (Keep.cons 8 rfl (Keep.cons 9 rfl (Keep.cons 10 rfl (Keep.cons 11 rfl (Keep.cons 12 rfl Keep.nil)))))))))) ?_
  refine at_seq ?_
  refine at_region ?_
  refine wl_call rfl rfl rfl (en_call rfl rfl) (awake_fn _ _) ?_
  rintro _ _ ⟨rfl, rfl⟩
  refine wl_read rfl rfl rfl (yl_move rfl rfl) ?_
  refine wl_read rfl rfl rfl (yl_move rfl rfl) ?_
  refine wl_read rfl rfl rfl ((yp_eql rfl rfl rfl).1 rfl) ?_
  refine wl_read rfl rfl rfl (yl_pickT rfl rfl rfl) ?_
  refine wl_read rfl rfl rfl (yl_move rfl rfl) ?_
  refine wl_read rfl rfl rfl (yl_move rfl rfl) ?_
  refine wl_read rfl rfl rfl ((yp_eql rfl rfl rfl).1 rfl) ?_
  refine wl_read rfl rfl rfl (yl_pickT rfl rfl rfl) ?_
  refine wl_read rfl rfl rfl (yl_move rfl rfl) ?_
  refine wl_read rfl rfl rfl (yl_move rfl rfl) ?_
  refine wl_read rfl rfl rfl (yl_len rfl rfl Try.underlying25) ?_
  refine wl_read rfl rfl rfl (yl_move rfl rfl) ?_
  refine wl_read rfl rfl rfl (yl_len rfl rfl Try.underlying23) ?_
  refine wl_read rfl rfl rfl ((yp_eql rfl rfl rfl).1 (by rw [run_length])) ?_
  refine wl_read rfl rfl rfl (yl_pickT rfl rfl rfl) ?_
  refine wl_read rfl rfl rfl (yl_move rfl rfl) ?_
  refine wl_read rfl rfl rfl (yl_move rfl rfl) ?_
  refine wl_read rfl rfl rfl (yl_move rfl rfl) ?_
  refine wl_know (fun _ hw => hw.slCap 1 rfl) (fun hcap2 => ?_)
  refine wl_read rfl rfl rfl (yl_sliceH (xs := run s) (j := j) rfl rfl rfl rfl (by rw [run_length]; exact hjl) hcap2 Try.underlying25 (by kernel_rfl) rfl) ?_
  refine wl_read rfl rfl rfl (yl_move rfl rfl) ?_
  refine wl_call rfl rfl rfl (en_call rfl rfl) (same_fn ((run s).take j) (run (s.take j)) _ _ _ _ _ _ ((Rd.of_sl 1 rfl).take j) (Rd.of_sl 0 rfl) (by rw [List.length_take, run_length]; omega)) ?_
  rintro _ _ ⟨rfl, rfl⟩
  rw [decide_eq_true (run_take s j).symm]
  refine wl_read rfl rfl rfl (yl_pickT rfl rfl rfl) ?_
  refine wl_read rfl rfl rfl (yl_assign rfl rfl) ?_
  refine wl_nil ?_
  refine at_keep (Keep.cons 0 rfl (Keep.cons 1 rfl (Keep.cons 2 rfl (Keep.cons 6 rfl (Keep.cons 7 rfl (Keep.cons 8 rfl (Keep.cons 9 rfl (Keep.cons 10 rfl (Keep.cons 11 rfl (Keep.cons 12 rfl Keep.nil)))))))))) ?_
  refine at_retH (fun _ hw => hw.tail.tail.tail) Try.func10 (res1 rfl rfl) ?_
  exact ⟨rfl, rfl⟩
theorem law9 (l k : List Raw) (A A0 : Option Addr) (c c0 : Nat) (month : Int) (b : World) (H : List Asr) (hR : Rd H A l) (hR0 : Rd H A0 k) (hc : l.length ≤ c) (hc0 : k.length ≤ c0) (hl : l.length ≤ 140737488355328) (hl0 : k.length ≤ 140737488355328)
    (ha : ∀ x, x ∈ l → I64 x.amount) (ha0 : ∀ x, x ∈ k → I64 x.amount) : Fn Try.prog 9 [.slice A l.length c, .slice A0 k.length c0, .int .i64 month] b H (fun v H' => v = .bool true ∧ H = H') := by
  obtain ⟨m, hm⟩ : ∃ m, min l.length 14 = m := ⟨_, rfl⟩
  obtain ⟨m0, hm0⟩ : ∃ m, min k.length 14 = m := ⟨_, rfl⟩
  have hmi : min (l.length : Int) 14 = (m : Int) := by omega
  have hmi0 : min (k.length : Int) 14 = (m0 : Int) := by omega
  have htl : (l.take m).length = m := by rw [List.length_take]; omega
  have htk : (k.take m0).length = m0 := by rw [List.length_take]; omega
  obtain ⟨a, hadef⟩ : ∃ a, a = l.take m ++ [(⟨false, true, 0⟩ : Raw)] ++ k.take m0 := ⟨_, rfl⟩
  have hal : a.length = m + 1 + m0 := by rw [hadef]; simp [htl, htk]; omega
  have haa : ∀ x, x ∈ a → I64 x.amount := by
    intro x hx
    rw [hadef] at hx
    simp only [List.mem_append, List.mem_singleton] at hx
    rcases hx with (h | h) | h
    · exact ha x (List.mem_of_mem_take h)
    · subst h; unfold I64; decide
    · exact ha0 x (List.mem_of_mem_take h)
  obtain ⟨s, hs⟩ : ∃ s, s = stages a month := ⟨_, rfl⟩
  have hv : Valid s := hs ▸ stages_valid a month
  have hl120 := hv.1
  have hsl : s.length = m + 1 + m0 := by rw [hs, stages, stgs_length, hal]; omega
  have hend : (at_ s m).ends = true := by
    rw [hs, stages, stgs_at _ _ (show m < min a.length 30 by omega)]
    have : at_ a m = ⟨false, true, 0⟩ := by
      unfold at_
      rw [List.getD_eq_getElem?_getD, hadef, List.append_assoc, List.getElem?_append_right (by omega), htl]
      simp
    simp only [stg, this]
  have hfl := fl_ends s hend
  have hvd := drop_valid s (m + 1) hv
  have hdl : (s.drop (m + 1)).length = m0 := by rw [List.length_drop]; omega
  refine fn_of_at (by kernel_rfl) Try.func9 rfl Try.ntmps9 rfl rfl ?_
  refine at_seq ?_
  refine at_region ?_
  refine wl_read rfl rfl rfl (yl_assign rfl rfl) ?_
  refine wl_nil ?_
  refine at_keep (Keep.cons 0 rfl (Keep.cons 1 rfl (Keep.cons 2 rfl (Keep.cons 6 rfl Keep.nil)))) ?_
  refine at_seq ?_
  refine at_draw0 (.fl 0 (.fl 1 (.fl 2 (.fl 3 (.fl 4 (.fl 6 (.fl 9 (.fl 10 (.fl 11 (.fl 12 (.fl 13 (.ef2 5 (.ef 7 (.ef 8 (.ef 14 (.fl 15 .nil)))) 7 (.ef 5 (.ef 8 (.ef 14 (.fl 15 .nil)))))))))))))))) (by kernel_rfl) (by kernel_rfl) ?_
  refine wt_read rfl rfl rfl rfl (yl_move rfl rfl) ?_
  refine wt_read rfl rfl rfl rfl (yl_move rfl rfl) ?_
  refine wt_read rfl rfl rfl rfl (yl_len rfl rfl Try.underlying22) ?_
  refine wt_read rfl rfl rfl rfl (yl_min rfl rfl rfl) ?_
  refine wt_read rfl rfl rfl rfl (yl_sliceH (xs := l) (j := m) rfl rfl rfl hmi (by omega) hc Try.underlying22 (by kernel_rfl) rfl) ?_
  refine wt_read rfl rfl rfl rfl (yl_build (cs := Enc.cells (⟨false, true, 0⟩ : Raw)) rfl rfl (fun _ => by kernel_rfl)) ?_
  refine wt_read rfl rfl rfl rfl (yl_move rfl rfl) ?_
  refine wt_read rfl rfl rfl rfl (yl_move rfl rfl) ?_
  refine wt_read rfl rfl rfl rfl (yl_len rfl rfl Try.underlying22) ?_
  refine wt_read rfl rfl rfl rfl (yl_min rfl rfl rfl) ?_
  refine wt_read rfl rfl rfl rfl (yl_sliceH (xs := k) (j := m0) rfl rfl rfl hmi0 (by omega) hc0 Try.underlying22 (by kernel_rfl) rfl) ?_
  refine wt_two ?_ ?_
  ·
    refine wt_eff rfl rfl rfl rfl (ef_append0 (ys := l.take m) rfl rfl rfl (hR.take m) Try.underlying22 info40 rfl rfl (by simp only [maxLen]; omega) (by omega)) ?_
    rintro _ _ ⟨A5, c5, rfl, rfl⟩
    refine ⟨⟨[_], rfl⟩, ?_⟩
    refine wt_eff rfl rfl rfl rfl (ef_buildSlice (e := 40) [(⟨false, true, 0⟩ : Raw)] rfl rfl (fun _ => by kernel_rfl) rfl rfl) ?_
    rintro _ _ ⟨T1_7, rfl, rfl⟩
    refine ⟨⟨[_, _], rfl⟩, ?_⟩
    refine wt_eff rfl rfl rfl rfl (ef_append (xs := l.take m) (ys := [(⟨false, true, 0⟩ : Raw)]) 1 rfl rfl rfl rfl (Rd.of_sl 0 rfl) Try.underlying22 info40 rfl rfl (by simp only [List.length_singleton, maxLen]; omega) (by simp only [List.length_singleton]; omega)) ?_
    rintro _ _ ⟨A8, c8, rfl, hH⟩
    simp only [List.set_cons_succ, List.set_cons_zero] at hH; subst hH
    refine ⟨⟨[_, _], rfl⟩, ?_⟩
    refine wt_heap (fun _ hw => hw.tail) ?_
    refine wt_eff rfl rfl rfl rfl (ef_append (xs := l.take m ++ [(⟨false, true, 0⟩ : Raw)]) (ys := k.take m0) 0 rfl rfl rfl rfl ((hR0.cons _).take m0) Try.underlying22 info40 rfl rfl (by simp only [List.length_append, List.length_singleton, maxLen]; omega) (by simp only [List.length_append, List.length_singleton]; omega)) ?_
    rintro _ _ ⟨A9, c9, rfl, hH⟩
    simp only [List.set_cons_succ, List.set_cons_zero] at hH; subst hH
    refine ⟨⟨[_], rfl⟩, ?_⟩
    rw [← hadef]
    refine wt_read rfl rfl rfl rfl (yl_assign rfl rfl) ?_
    refine wt_nil ?_
    refine at_keep (Keep.cons 0 rfl (Keep.cons 1 rfl (Keep.cons 2 rfl (Keep.cons 6 rfl (Keep.cons 7 rfl Keep.nil))))) ?_
    refine at_seq ?_
    refine at_region ?_
    refine wl_read rfl rfl rfl (yl_move rfl rfl) ?_
    refine wl_read rfl rfl rfl (yl_move rfl rfl) ?_
    refine wl_call rfl rfl rfl (en_call rfl rfl) (stages_fnS hs (Rd.of_sl 0 rfl) (by omega) (fun i hi => at_mem haa i hi)) ?_
    rintro _ _ ⟨A1, c1, rfl, rfl⟩
    refine wl_read rfl rfl rfl (yl_assign rfl rfl) ?_
    refine wl_nil ?_
    refine at_keep (Keep.cons 0 rfl (Keep.cons 1 rfl (Keep.cons 2 rfl (Keep.cons 6 rfl (Keep.cons 7 rfl (Keep.cons 8 rfl Keep.nil)))))) ?_
    refine at_seq ?_
    refine at_region ?_
    refine wl_read rfl rfl rfl (yl_move rfl rfl) ?_
    refine wl_read rfl rfl rfl (yl_len rfl rfl Try.underlying22) ?_
    refine wl_read rfl rfl rfl (yl_min rfl rfl rfl) ?_
    refine wl_read rfl rfl rfl (yl_as (yl_add rfl rfl rfl (w64 (by omega) (by omega))) (show Value.int .i64 (min (l.length : Int) 14 + 1) = .int .i64 ((m + 1 : Nat) : Int) by rw [hmi]; rfl)) ?_
    refine wl_read rfl rfl rfl (yl_assign rfl rfl) ?_
    refine wl_nil ?_
    refine at_keep (Keep.cons 0 rfl (Keep.cons 1 rfl (Keep.cons 2 rfl (Keep.cons 6 rfl (Keep.cons 7 rfl (Keep.cons 8 rfl (Keep.cons 9 rfl Keep.nil))))))) ?_
    refine at_seq ?_
    refine at_region ?_
    refine wl_read rfl rfl rfl (yl_move rfl rfl) ?_
    refine wl_call rfl rfl rfl (en_call rfl rfl) (run_ok hv (Rd.of_sl 0 rfl)) ?_
    rintro _ _ ⟨A2, c2, rfl, rfl⟩
    refine wl_read rfl rfl rfl (yl_move rfl rfl) ?_
    refine wl_read rfl rfl rfl (yl_extract rfl rfl rfl) ?_
    refine wl_read rfl rfl rfl (yl_extract rfl rfl rfl) ?_
    refine wl_read rfl rfl rfl (yl_assign rfl rfl) ?_
    refine wl_read rfl rfl rfl (yl_assign rfl rfl) ?_
    refine wl_nil ?_
    refine at_keep (Keep.cons 0 rfl (Keep.cons 1 rfl (Keep.cons 2 rfl (Keep.cons 6 rfl (Keep.cons 7 rfl (Keep.cons 8 rfl (Keep.cons 9 rfl (Keep.cons 10 rfl (Keep.cons 11 rfl Keep.nil))))))))) ?_
    refine at_seq ?_
    refine at_region ?_
    refine wl_read rfl rfl rfl (yl_move rfl rfl) ?_
    refine wl_read rfl rfl rfl (yl_move rfl rfl) ?_
    refine wl_know (fun _ hw => hw.slCap 1 rfl) (fun hcap => ?_)
    refine wl_read rfl rfl rfl (yl_sliceL (xs := s) (j := m + 1) rfl rfl rfl rfl (by omega) Try.underlying23 (by kernel_rfl) rfl) ?_
    refine wl_call rfl rfl rfl (en_call rfl rfl) (run_ok hvd ((Rd.of_sl 1 rfl).drop (m + 1) hcap)) ?_
    rintro _ _ ⟨A3, c3, rfl, rfl⟩
    refine wl_read rfl rfl rfl (yl_move rfl rfl) ?_
    refine wl_read rfl rfl rfl (yl_extract rfl rfl rfl) ?_
    refine wl_read rfl rfl rfl (yl_extract rfl rfl rfl) ?_
    refine wl_read rfl rfl rfl (yl_assign rfl rfl) ?_
    refine wl_read rfl rfl rfl (yl_assign rfl rfl) ?_
    refine wl_nil ?_
    refine at_keep (Keep.cons 0 rfl (Keep.cons 1 rfl (Keep.cons 2 rfl (Keep.cons 6 rfl (Keep.cons 7 rfl (Keep.cons 8 rfl (Keep.cons 9 rfl (Keep.cons 10 rfl (Keep.cons 11 rfl (Keep.cons 12 rfl (Keep.cons 13 rfl Keep.nil))))))))))) ?_
    refine at_seq ?_
    refine at_seq ?_
    refine at_region ?_
    refine wl_call rfl rfl rfl (en_call rfl rfl) (awake_fn _ _) ?_
    rintro _ _ ⟨rfl, rfl⟩
    refine wl_read rfl rfl rfl (yl_notT rfl rfl) ?_
    refine wl_read rfl rfl rfl (yl_move rfl rfl) ?_
    refine wl_read rfl rfl rfl (yl_move rfl rfl) ?_
    refine wl_read rfl rfl rfl ((yp_neq rfl rfl rfl).2 (by simp)) ?_
    refine wl_read rfl rfl rfl (yl_pickF rfl rfl rfl) ?_
    refine wl_read rfl rfl rfl (yl_move rfl rfl) ?_
    refine wl_read rfl rfl rfl (yl_move rfl rfl) ?_
    refine wl_read rfl rfl rfl ((yp_neq rfl rfl rfl).2 (by simp)) ?_
    refine wl_read rfl rfl rfl (yl_pickF rfl rfl rfl) ?_
    refine wl_read rfl rfl rfl (yl_move rfl rfl) ?_
    refine wl_read rfl rfl rfl (yl_move rfl rfl) ?_
    refine wl_read rfl rfl rfl (yl_len rfl rfl Try.underlying25) ?_
    refine wl_read rfl rfl rfl (yl_move rfl rfl) ?_
    refine wl_read rfl rfl rfl (yl_len rfl rfl Try.underlying23) ?_
    refine wl_read rfl rfl rfl ((yp_neq rfl rfl rfl).2 (by rw [run_length]; simp)) ?_
    refine wl_read rfl rfl rfl (yl_pickF rfl rfl rfl) ?_
    refine wl_read rfl rfl rfl (yl_move rfl rfl) ?_
    refine wl_read rfl rfl rfl (yl_move rfl rfl) ?_
    refine wl_read rfl rfl rfl (yl_len rfl rfl Try.underlying25) ?_
    refine wl_read rfl rfl rfl (yl_move rfl rfl) ?_
    refine wl_read rfl rfl rfl (yl_len rfl rfl Try.underlying23) ?_
    refine wl_read rfl rfl rfl (yl_move rfl rfl) ?_
    refine wl_read rfl rfl rfl (yl_sub rfl rfl rfl (w64 (by omega) (by omega))) ?_
    refine wl_read rfl rfl rfl ((yp_neq rfl rfl rfl).2 (by rw [run_length, hdl]; omega)) ?_
    refine wl_read rfl rfl rfl (yl_pickF rfl rfl rfl) ?_
    refine wl_nil ?_
    refine at_keep (Keep.cons 0 rfl (Keep.cons 1 rfl (Keep.cons 2 rfl (Keep.cons 6 rfl (Keep.cons 7 rfl (Keep.cons 8 rfl (Keep.cons 9 rfl (Keep.cons 10 rfl (Keep.cons 11 rfl (Keep.cons 12 rfl (Keep.cons 13 rfl (Keep.cons 73 rfl Keep.nil)))))))))))) ?_
    refine at_false rfl ?_
    refine at_skip ?_
    refine at_seq ?_
    refine at_region ?_
    refine wl_read rfl rfl rfl (yl_move rfl rfl) ?_
    refine wl_read rfl rfl rfl (yl_move rfl rfl) ?_
    refine wl_know (fun _ hw => hw.slCap 1 rfl) (fun hcap2 => ?_)
    refine wl_read rfl rfl rfl (yl_sliceL (xs := run s) (j := m + 1) rfl rfl rfl rfl (by rw [run_length]; omega) Try.underlying25 (by kernel_rfl) rfl) ?_
    refine wl_read rfl rfl rfl (yl_move rfl rfl) ?_
    refine wl_call rfl rfl rfl (en_call rfl rfl) (same_fn ((run s).drop (m + 1)) (run (s.drop (m + 1))) _ _ _ _ _ _ ((Rd.of_sl 1 rfl).drop (m + 1) hcap2) (Rd.of_sl 0 rfl) (by rw [List.length_drop, run_length]; omega)) ?_
    rintro _ _ ⟨rfl, rfl⟩
    rw [decide_eq_true (run_drop s (m + 1) hfl).symm]
    refine wl_read rfl rfl rfl (yl_assign rfl rfl) ?_
    refine wl_nil ?_
    refine at_keep (Keep.cons 0 rfl (Keep.cons 1 rfl (Keep.cons 2 rfl (Keep.cons 6 rfl (Keep.cons 7 rfl (Keep.cons 8 rfl (Keep.cons 9 rfl (Keep.cons 10 rfl (Keep.cons 11 rfl (Keep.cons 12 rfl (Keep.cons 13 rfl (Keep.cons 73 rfl Keep.nil)))))))))))) ?_
    refine at_retH (fun _ hw => hw.tail.tail.tail.tail) Try.func9 (res1 rfl rfl) ?_
    exact ⟨rfl, rfl⟩
  ·
    refine wt_eff rfl rfl rfl rfl (ef_buildSlice (e := 40) [(⟨false, true, 0⟩ : Raw)] rfl rfl (fun _ => by kernel_rfl) rfl rfl) ?_
    rintro _ _ ⟨T1_7, rfl, rfl⟩
    refine ⟨⟨[_], rfl⟩, ?_⟩
    refine wt_eff rfl rfl rfl rfl (ef_append0 (ys := l.take m) rfl rfl rfl ((hR.cons _).take m) Try.underlying22 info40 rfl rfl (by simp only [maxLen]; omega) (by omega)) ?_
    rintro _ _ ⟨A5, c5, rfl, rfl⟩
    refine ⟨⟨[_, _], rfl⟩, ?_⟩
    refine wt_eff rfl rfl rfl rfl (ef_append (xs := l.take m) (ys := [(⟨false, true, 0⟩ : Raw)]) 0 rfl rfl rfl rfl (Rd.of_sl 1 rfl) Try.underlying22 info40 rfl rfl (by simp only [List.length_singleton, maxLen]; omega) (by simp only [List.length_singleton]; omega)) ?_
    rintro _ _ ⟨A8, c8, rfl, hH⟩
    simp only [List.set_cons_succ, List.set_cons_zero] at hH; subst hH
    refine ⟨⟨[_, _], rfl⟩, ?_⟩
    refine wt_heap (fun _ hw => hw.swap.tail) ?_
    refine wt_eff rfl rfl rfl rfl (ef_append (xs := l.take m ++ [(⟨false, true, 0⟩ : Raw)]) (ys := k.take m0) 0 rfl rfl rfl rfl ((hR0.cons _).take m0) Try.underlying22 info40 rfl rfl (by simp only [List.length_append, List.length_singleton, maxLen]; omega) (by simp only [List.length_append, List.length_singleton]; omega)) ?_
    rintro _ _ ⟨A9, c9, rfl, hH⟩
    simp only [List.set_cons_succ, List.set_cons_zero] at hH; subst hH
    refine ⟨⟨[_], rfl⟩, ?_⟩
    rw [← hadef]
    refine wt_read rfl rfl rfl rfl (yl_assign rfl rfl) ?_
    refine wt_nil ?_
    refine at_keep (Keep.cons 0 rfl (Keep.cons 1 rfl (Keep.cons 2 rfl (Keep.cons 6 rfl (Keep.cons 7 rfl Keep.nil))))) ?_
    refine at_seq ?_
    refine at_region ?_
    refine wl_read rfl rfl rfl (yl_move rfl rfl) ?_
    refine wl_read rfl rfl rfl (yl_move rfl rfl) ?_
    refine wl_call rfl rfl rfl (en_call rfl rfl) (stages_fnS hs (Rd.of_sl 0 rfl) (by omega) (fun i hi => at_mem haa i hi)) ?_
    rintro _ _ ⟨A1, c1, rfl, rfl⟩
    refine wl_read rfl rfl rfl (yl_assign rfl rfl) ?_
    refine wl_nil ?_
    refine at_keep (Keep.cons 0 rfl (Keep.cons 1 rfl (Keep.cons 2 rfl (Keep.cons 6 rfl (Keep.cons 7 rfl (Keep.cons 8 rfl Keep.nil)))))) ?_
    refine at_seq ?_
    refine at_region ?_
    refine wl_read rfl rfl rfl (yl_move rfl rfl) ?_
    refine wl_read rfl rfl rfl (yl_len rfl rfl Try.underlying22) ?_
    refine wl_read rfl rfl rfl (yl_min rfl rfl rfl) ?_
    refine wl_read rfl rfl rfl (yl_as (yl_add rfl rfl rfl (w64 (by omega) (by omega))) (show Value.int .i64 (min (l.length : Int) 14 + 1) = .int .i64 ((m + 1 : Nat) : Int) by rw [hmi]; rfl)) ?_
    refine wl_read rfl rfl rfl (yl_assign rfl rfl) ?_
    refine wl_nil ?_
    refine at_keep (Keep.cons 0 rfl (Keep.cons 1 rfl (Keep.cons 2 rfl (Keep.cons 6 rfl (Keep.cons 7 rfl (Keep.cons 8 rfl (Keep.cons 9 rfl Keep.nil))))))) ?_
    refine at_seq ?_
    refine at_region ?_
    refine wl_read rfl rfl rfl (yl_move rfl rfl) ?_
    refine wl_call rfl rfl rfl (en_call rfl rfl) (run_ok hv (Rd.of_sl 0 rfl)) ?_
    rintro _ _ ⟨A2, c2, rfl, rfl⟩
    refine wl_read rfl rfl rfl (yl_move rfl rfl) ?_
    refine wl_read rfl rfl rfl (yl_extract rfl rfl rfl) ?_
    refine wl_read rfl rfl rfl (yl_extract rfl rfl rfl) ?_
    refine wl_read rfl rfl rfl (yl_assign rfl rfl) ?_
    refine wl_read rfl rfl rfl (yl_assign rfl rfl) ?_
    refine wl_nil ?_
    refine at_keep (Keep.cons 0 rfl (Keep.cons 1 rfl (Keep.cons 2 rfl (Keep.cons 6 rfl (Keep.cons 7 rfl (Keep.cons 8 rfl (Keep.cons 9 rfl (Keep.cons 10 rfl (Keep.cons 11 rfl Keep.nil))))))))) ?_
    refine at_seq ?_
    refine at_region ?_
    refine wl_read rfl rfl rfl (yl_move rfl rfl) ?_
    refine wl_read rfl rfl rfl (yl_move rfl rfl) ?_
    refine wl_know (fun _ hw => hw.slCap 1 rfl) (fun hcap => ?_)
    refine wl_read rfl rfl rfl (yl_sliceL (xs := s) (j := m + 1) rfl rfl rfl rfl (by omega) Try.underlying23 (by kernel_rfl) rfl) ?_
    refine wl_call rfl rfl rfl (en_call rfl rfl) (run_ok hvd ((Rd.of_sl 1 rfl).drop (m + 1) hcap)) ?_
    rintro _ _ ⟨A3, c3, rfl, rfl⟩
    refine wl_read rfl rfl rfl (yl_move rfl rfl) ?_
    refine wl_read rfl rfl rfl (yl_extract rfl rfl rfl) ?_
    refine wl_read rfl rfl rfl (yl_extract rfl rfl rfl) ?_
    refine wl_read rfl rfl rfl (yl_assign rfl rfl) ?_
    refine wl_read rfl rfl rfl (yl_assign rfl rfl) ?_
    refine wl_nil ?_
    refine at_keep (Keep.cons 0 rfl (Keep.cons 1 rfl (Keep.cons 2 rfl (Keep.cons 6 rfl (Keep.cons 7 rfl (Keep.cons 8 rfl (Keep.cons 9 rfl (Keep.cons 10 rfl (Keep.cons 11 rfl (Keep.cons 12 rfl (Keep.cons 13 rfl Keep.nil))))))))))) ?_
    refine at_seq ?_
    refine at_seq ?_
    refine at_region ?_
    refine wl_call rfl rfl rfl (en_call rfl rfl) (awake_fn _ _) ?_
    rintro _ _ ⟨rfl, rfl⟩
    refine wl_read rfl rfl rfl (yl_notT rfl rfl) ?_
    refine wl_read rfl rfl rfl (yl_move rfl rfl) ?_
    refine wl_read rfl rfl rfl (yl_move rfl rfl) ?_
    refine wl_read rfl rfl rfl ((yp_neq rfl rfl rfl).2 (by simp)) ?_
    refine wl_read rfl rfl rfl (yl_pickF rfl rfl rfl) ?_
    refine wl_read rfl rfl rfl (yl_move rfl rfl) ?_
    refine wl_read rfl rfl rfl (yl_move rfl rfl) ?_
    refine wl_read rfl rfl rfl ((yp_neq rfl rfl rfl).2 (by simp)) ?_
    refine wl_read rfl rfl rfl (yl_pickF rfl rfl rfl) ?_
    refine wl_read rfl rfl rfl (yl_move rfl rfl) ?_
    refine wl_read rfl rfl rfl (yl_move rfl rfl) ?_
    refine wl_read rfl rfl rfl (yl_len rfl rfl Try.underlying25) ?_
    refine wl_read rfl rfl rfl (yl_move rfl rfl) ?_
    refine wl_read rfl rfl rfl (yl_len rfl rfl Try.underlying23) ?_
    refine wl_read rfl rfl rfl ((yp_neq rfl rfl rfl).2 (by rw [run_length]; simp)) ?_
    refine wl_read rfl rfl rfl (yl_pickF rfl rfl rfl) ?_
    refine wl_read rfl rfl rfl (yl_move rfl rfl) ?_
    refine wl_read rfl rfl rfl (yl_move rfl rfl) ?_
    refine wl_read rfl rfl rfl (yl_len rfl rfl Try.underlying25) ?_
    refine wl_read rfl rfl rfl (yl_move rfl rfl) ?_
    refine wl_read rfl rfl rfl (yl_len rfl rfl Try.underlying23) ?_
    refine wl_read rfl rfl rfl (yl_move rfl rfl) ?_
    refine wl_read rfl rfl rfl (yl_sub rfl rfl rfl (w64 (by omega) (by omega))) ?_
    refine wl_read rfl rfl rfl ((yp_neq rfl rfl rfl).2 (by rw [run_length, hdl]; omega)) ?_
    refine wl_read rfl rfl rfl (yl_pickF rfl rfl rfl) ?_
    refine wl_nil ?_
    refine at_keep (Keep.cons 0 rfl (Keep.cons 1 rfl (Keep.cons 2 rfl (Keep.cons 6 rfl (Keep.cons 7 rfl (Keep.cons 8 rfl (Keep.cons 9 rfl (Keep.cons 10 rfl (Keep.cons 11 rfl (Keep.cons 12 rfl (Keep.cons 13 rfl (Keep.cons 73 rfl Keep.nil)))))))))))) ?_
    refine at_false rfl ?_
    refine at_skip ?_
    refine at_seq ?_
    refine at_region ?_
    refine wl_read rfl rfl rfl (yl_move rfl rfl) ?_
    refine wl_read rfl rfl rfl (yl_move rfl rfl) ?_
    refine wl_know (fun _ hw => hw.slCap 1 rfl) (fun hcap2 => ?_)
    refine wl_read rfl rfl rfl (yl_sliceL (xs := run s) (j := m + 1) rfl rfl rfl rfl (by rw [run_length]; omega) Try.underlying25 (by kernel_rfl) rfl) ?_
    refine wl_read rfl rfl rfl (yl_move rfl rfl) ?_
    refine wl_call rfl rfl rfl (en_call rfl rfl) (same_fn ((run s).drop (m + 1)) (run (s.drop (m + 1))) _ _ _ _ _ _ ((Rd.of_sl 1 rfl).drop (m + 1) hcap2) (Rd.of_sl 0 rfl) (by rw [List.length_drop, run_length]; omega)) ?_
    rintro _ _ ⟨rfl, rfl⟩
    rw [decide_eq_true (run_drop s (m + 1) hfl).symm]
    refine wl_read rfl rfl rfl (yl_assign rfl rfl) ?_
    refine wl_nil ?_
    refine at_keep (Keep.cons 0 rfl (Keep.cons 1 rfl (Keep.cons 2 rfl (Keep.cons 6 rfl (Keep.cons 7 rfl (Keep.cons 8 rfl (Keep.cons 9 rfl (Keep.cons 10 rfl (Keep.cons 11 rfl (Keep.cons 12 rfl (Keep.cons 13 rfl (Keep.cons 73 rfl Keep.nil)))))))))))) ?_
    refine at_retH (fun _ hw => hw.tail.tail.tail.tail) Try.func9 (res1 rfl rfl) ?_
    exact ⟨rfl, rfl⟩
theorem set_valid (s : List Stage) {j : Nat} (hj : j < s.length) (x : Stage) (hv : Valid s) (hm : x.month = (at_ s j).month) (h0 : 0 ≤ x.amount) (h1 : x.amount ≤ 1000000000000) : Valid (s.set j x) := by
  refine ⟨by rw [List.length_set]; exact hv.1, fun i hi => ?_⟩
  rw [List.length_set] at hi
  have hi2 := hv.2 i hi
  unfold okSt at hi2 ⊢
  have e : ∀ i, i < s.length → (at_ (s.set j x) i).month = (at_ s i).month := by
    intro i hi
    rw [at_set s j x hi]
    split
    · rename_i e; rw [e]; exact hm
    · rfl
  rw [e i hi, e (i - 1) (by omega), at_set s j x hi]
  refine ⟨hi2.1, hi2.2.1, ?_, ?_, hi2.2.2.2.2⟩
  · split
    · exact h0
    · exact hi2.2.2.1
  · split
    · exact h1
    · exact hi2.2.2.2.1
theorem law11 (l : List Raw) (A : Option Addr) (c : Nat) (month : Int) (at' by' : Int) (b : World) (H : List Asr) (hR : Rd H A l) (hl : l.length ≤ 140737488355328) (ha : ∀ i, i < l.length → I64 (at_ l i).amount) : Fn Try.prog 11 [.slice A l.length c, .int .i64 month, .int .i64 at', .int .i64 by'] b H (fun v H' => v = .bool true ∧ H = H') := by
  obtain ⟨s, hs⟩ : ∃ s, s = stages l month := ⟨_, rfl⟩
  have hv : Valid s := hs ▸ stages_valid l month
  have hl120 := hv.1
  have hby := md_bd by' 10000 (by omega)
  refine fn_of_at (by kernel_rfl) Try.func11 rfl Try.ntmps11 rfl rfl ?_
  refine at_seq ?_
  refine at_region ?_
  refine wl_read rfl rfl rfl (yl_assign rfl rfl) ?_
  refine wl_nil ?_
  refine at_keep (Keep.cons 0 rfl (Keep.cons 1 rfl (Keep.cons 2 rfl (Keep.cons 3 rfl (Keep.cons 8 rfl Keep.nil))))) ?_
  refine at_seq ?_
  refine at_region ?_
  refine wl_read rfl rfl rfl (yl_move rfl rfl) ?_
  refine wl_read rfl rfl rfl (yl_move rfl rfl) ?_
  refine wl_call rfl rfl rfl (en_call rfl rfl) (stages_fnS hs hR hl ha) ?_
  rintro _ _ ⟨A1, c1, rfl, rfl⟩
  refine wl_read rfl rfl rfl (yl_assign rfl rfl) ?_
  refine wl_nil ?_
  refine at_keep (Keep.cons 0 rfl (Keep.cons 1 rfl (Keep.cons 2 rfl (Keep.cons 3 rfl (Keep.cons 8 rfl (Keep.cons 9 rfl Keep.nil)))))) ?_
  refine at_seq ?_
  refine at_seq ?_
  refine at_region ?_
  refine wl_read rfl rfl rfl (yl_move rfl rfl) ?_
  refine wl_read rfl rfl rfl (yl_len rfl rfl Try.underlying23) ?_
  refine wl_split rfl rfl rfl (yp_eql rfl rfl rfl) ?_ ?_
  · intro h2_2
    refine wl_nil ?_
    refine at_keep (Keep.cons 0 rfl (Keep.cons 1 rfl (Keep.cons 2 rfl (Keep.cons 3 rfl (Keep.cons 8 rfl (Keep.cons 9 rfl (Keep.cons 22 rfl Keep.nil))))))) ?_
    refine at_true rfl ?_
    refine at_seq ?_
    refine at_region ?_
    refine wl_call rfl rfl rfl (en_call rfl rfl) (awake_fn _ _) ?_
    rintro _ _ ⟨rfl, rfl⟩
    refine wl_read rfl rfl rfl (yl_assign rfl rfl) ?_
    refine wl_nil ?_
    refine at_keep (Keep.cons 0 rfl (Keep.cons 1 rfl (Keep.cons 2 rfl (Keep.cons 3 rfl (Keep.cons 8 rfl (Keep.cons 9 rfl (Keep.cons 22 rfl Keep.nil))))))) ?_
    refine at_retH (fun _ hw => hw.tail) Try.func11 (res1 rfl rfl) ?_
    exact ⟨rfl, rfl⟩
  · intro h2_2
    refine wl_nil ?_
    refine at_keep (Keep.cons 0 rfl (Keep.cons 1 rfl (Keep.cons 2 rfl (Keep.cons 3 rfl (Keep.cons 8 rfl (Keep.cons 9 rfl (Keep.cons 22 rfl Keep.nil))))))) ?_
    refine at_false rfl ?_
    refine at_skip ?_
    refine at_seq ?_
    have hpos : 0 < s.length := by omega
    have hmd := md_bd at' (s.length : Int) (by omega)
    obtain ⟨j, hj⟩ : ∃ j : Nat, md at' (s.length : Int) = (j : Int) := ⟨_, (Int.toNat_of_nonneg hmd.1).symm⟩
    rw [hj] at hmd
    have hjl : j < s.length := by omega
    have hok := hv.2 j hjl
    unfold okSt at hok
    obtain ⟨t, ht⟩ : ∃ t, t = s.set j (⟨(at_ s j).month, (at_ s j).law, (at_ s j).ends, min 1000000000000 ((at_ s j).amount + md by' 10000)⟩ : Stage) := ⟨_, rfl⟩
    have hvt : Valid t := by rw [ht]; exact set_valid s hjl _ hv rfl (by simp only []; omega) (by simp only []; omega)
    have htl : t.length = s.length := by rw [ht, List.length_set]
    have hmono : ∀ i, (at_ s i).amount ≤ (at_ t i).amount ∧ (at_ s i).law = (at_ t i).law ∧ (at_ s i).ends = (at_ t i).ends := by
      intro i
      by_cases hi : i < s.length
      · rw [ht, at_set s j _ hi]
        split
        · rename_i e; subst e; exact ⟨by simp only []; omega, rfl, rfl⟩
        · exact ⟨Int.le_refl _, rfl, rfl⟩
      · have e1 : at_ s i = default := by unfold at_; rw [List.getD_eq_getElem?_getD, List.getElem?_eq_none (by omega)]; rfl
        have e2 : at_ t i = default := by unfold at_; rw [List.getD_eq_getElem?_getD, List.getElem?_eq_none (by omega)]; rfl
        rw [e1, e2]; exact ⟨Int.le_refl _, rfl, rfl⟩
    refine at_region ?_
    refine wl_read rfl rfl rfl (yl_move rfl rfl) ?_
    refine wl_call rfl rfl rfl (en_call rfl rfl) (run_ok hv (Rd.of_sl 0 rfl)) ?_
    rintro _ _ ⟨A2, c2, rfl, rfl⟩
    refine wl_read rfl rfl rfl (yl_move rfl rfl) ?_
    refine wl_read rfl rfl rfl (yl_extract rfl rfl rfl) ?_
    refine wl_read rfl rfl rfl (yl_extract rfl rfl rfl) ?_
    refine wl_read rfl rfl rfl (yl_assign rfl rfl) ?_
    refine wl_read rfl rfl rfl (yl_assign rfl rfl) ?_
    refine wl_nil ?_
    refine at_keep (Keep.cons 0 rfl (Keep.cons 1 rfl (Keep.cons 2 rfl (Keep.cons 3 rfl (Keep.cons 8 rfl (Keep.cons 9 rfl (Keep.cons 10 rfl (Keep.cons 11 rfl (Keep.cons 22 rfl Keep.nil))))))))) ?_
    refine at_seq ?_
    refine at_region ?_
    refine wl_read rfl rfl rfl (yl_move rfl rfl) ?_
    refine wl_eff rfl rfl rfl (ef_append0 (ys := s) rfl rfl rfl (Rd.of_sl 1 rfl) Try.underlying23 info37 rfl rfl (by simp only [maxLen]; omega) (by omega)) ?_
    rintro _ _ ⟨A3, c3, rfl, rfl⟩
    refine wl_read rfl rfl rfl (yl_assign rfl rfl) ?_
    refine wl_nil ?_
    refine at_keep (Keep.cons 0 rfl (Keep.cons 1 rfl (Keep.cons 2 rfl (Keep.cons 3 rfl (Keep.cons 8 rfl (Keep.cons 9 rfl (Keep.cons 10 rfl (Keep.cons 11 rfl (Keep.cons 12 rfl (Keep.cons 22 rfl Keep.nil)))))))))) ?_
    refine at_seq ?_
    refine at_region ?_
    refine wl_read rfl rfl rfl (yl_move rfl rfl) ?_
    refine wl_read rfl rfl rfl (yl_move rfl rfl) ?_
    refine wl_read rfl rfl rfl (yl_len rfl rfl Try.underlying23) ?_
    refine wl_call rfl rfl rfl (en_call rfl rfl) (mod_fn _ _ _ _ (by omega) (by omega)) ?_
    rintro _ _ ⟨rfl, rfl⟩
    rw [hj]
    refine wl_read rfl rfl rfl (yl_assign rfl rfl) ?_
    refine wl_nil ?_
    refine at_keep (Keep.cons 0 rfl (Keep.cons 1 rfl (Keep.cons 2 rfl (Keep.cons 3 rfl (Keep.cons 8 rfl (Keep.cons 9 rfl (Keep.cons 10 rfl (Keep.cons 11 rfl (Keep.cons 12 rfl (Keep.cons 13 rfl (Keep.cons 22 rfl Keep.nil))))))))))) ?_
    refine at_seq ?_
    refine at_know (fun _ hw => (Rd.of_sl (xs := s) 0 rfl).isSome hw (at_some hjl)) (fun hA => ?_)
    refine at_draw1 (.fl 0 (.fl 1 (.fl 2 (.fl 3 (.fl 4 (.fl 5 (.fl 7 (.ef2 6 (.ef 8 (.fl 9 (.fl 10 (.fl 11 (.fl 12 (.ef 13 .nil)))))) 8 (.ef 6 (.fl 9 (.fl 10 (.fl 11 (.fl 12 (.ef 13 .nil)))))))))))))) (by kernel_rfl) (by kernel_rfl) ?_
    refine wt_read rfl rfl rfl rfl (yl_move rfl rfl) ?_
    refine wt_read rfl rfl rfl rfl (yl_move rfl rfl) ?_
    refine wt_read rfl rfl rfl rfl (yl_move rfl rfl) ?_
    refine wt_read rfl rfl rfl rfl (yl_move rfl rfl) ?_
    refine wt_read rfl rfl rfl rfl (yl_indexS (α := Stage) rfl rfl rfl hA rfl hjl Try.underlying23 (by kernel_rfl) rfl) ?_
    refine wt_read rfl rfl rfl rfl (yl_field rfl rfl Try.underlying37 rfl (by kernel_rfl) rfl) ?_
    refine wt_read rfl rfl rfl rfl (yl_move rfl rfl) ?_
    refine wt_two ?_ ?_
    ·
      refine wt_readE rfl rfl rfl rfl (yl_load rfl rfl Try.underlying3 rfl ((Rd.of_sl (xs := s) 0 rfl).cell2 (at_some hjl) rfl)) ⟨[_], rfl⟩ ?_
      refine wt_call rfl rfl rfl rfl (en_call rfl rfl) (mod_fn _ _ _ _ (by omega) (by omega)) ?_
      rintro _ _ ⟨rfl, rfl⟩
      refine ⟨⟨[_], rfl⟩, ?_⟩
      refine wt_read rfl rfl rfl rfl (yl_add rfl rfl rfl (w64 (by omega) (by omega))) ?_
      refine wt_read rfl rfl rfl rfl (yl_min rfl rfl rfl) ?_
      refine wt_read rfl rfl rfl rfl (yl_indexS (α := Stage) rfl rfl rfl hA rfl hjl Try.underlying23 (by kernel_rfl) rfl) ?_
      refine wt_read rfl rfl rfl rfl (yl_field rfl rfl Try.underlying37 rfl (by kernel_rfl) rfl) ?_
      refine wt_store rfl rfl rfl (es_at0 (es_storeSl (α := Stage) 0 (⟨(at_ s j).month, (at_ s j).law, (at_ s j).ends, min 1000000000000 ((at_ s j).amount + md by' 10000)⟩ : Stage) rfl rfl rfl rfl (by kernel_rfl) rfl (at_some hjl) rfl rfl)) ⟨[_], rfl⟩ ?_
      rw [← ht]
      refine wt_nil ?_
      refine at_keep (Keep.cons 0 rfl (Keep.cons 1 rfl (Keep.cons 2 rfl (Keep.cons 3 rfl (Keep.cons 8 rfl (Keep.cons 9 rfl (Keep.cons 10 rfl (Keep.cons 11 rfl (Keep.cons 12 rfl (Keep.cons 13 rfl (Keep.cons 22 rfl Keep.nil))))))))))) ?_
      refine at_seq ?_
      refine at_region ?_
      refine wl_read rfl rfl rfl (yl_move rfl rfl) ?_
      refine wl_call rfl rfl rfl (en_call rfl rfl) (run_okL hvt htl (Rd.of_sl 0 rfl)) ?_
      rintro _ _ ⟨A4, c4, rfl, rfl⟩
      refine wl_read rfl rfl rfl (yl_move rfl rfl) ?_
      refine wl_read rfl rfl rfl (yl_extract rfl rfl rfl) ?_
      refine wl_read rfl rfl rfl (yl_extract rfl rfl rfl) ?_
      refine wl_read rfl rfl rfl (yl_assign rfl rfl) ?_
      refine wl_read rfl rfl rfl (yl_assign rfl rfl) ?_
      refine wl_nil ?_
      refine at_keep (Keep.cons 0 rfl (Keep.cons 1 rfl (Keep.cons 2 rfl (Keep.cons 3 rfl (Keep.cons 8 rfl (Keep.cons 9 rfl (Keep.cons 10 rfl (Keep.cons 11 rfl (Keep.cons 12 rfl (Keep.cons 13 rfl (Keep.cons 14 rfl (Keep.cons 15 rfl (Keep.cons 22 rfl Keep.nil))))))))))))) ?_
      refine at_seq ?_
      refine at_seq ?_
      refine at_region ?_
      refine wl_call rfl rfl rfl (en_call rfl rfl) (awake_fn _ _) ?_
      rintro _ _ ⟨rfl, rfl⟩
      refine wl_read rfl rfl rfl (yl_notT rfl rfl) ?_
      refine wl_read rfl rfl rfl (yl_move rfl rfl) ?_
      refine wl_read rfl rfl rfl (yl_move rfl rfl) ?_
      refine wl_read rfl rfl rfl ((yp_neq rfl rfl rfl).2 (by simp)) ?_
      refine wl_read rfl rfl rfl (yl_pickF rfl rfl rfl) ?_
      refine wl_read rfl rfl rfl (yl_move rfl rfl) ?_
      refine wl_read rfl rfl rfl (yl_move rfl rfl) ?_
      refine wl_read rfl rfl rfl ((yp_neq rfl rfl rfl).2 (by simp)) ?_
      refine wl_read rfl rfl rfl (yl_pickF rfl rfl rfl) ?_
      refine wl_read rfl rfl rfl (yl_move rfl rfl) ?_
      refine wl_read rfl rfl rfl (yl_move rfl rfl) ?_
      refine wl_read rfl rfl rfl (yl_len rfl rfl Try.underlying25) ?_
      refine wl_read rfl rfl rfl (yl_move rfl rfl) ?_
      refine wl_read rfl rfl rfl (yl_len rfl rfl Try.underlying23) ?_
      refine wl_read rfl rfl rfl ((yp_neq rfl rfl rfl).2 (by rw [run_length]; simp)) ?_
      refine wl_read rfl rfl rfl (yl_pickF rfl rfl rfl) ?_
      refine wl_read rfl rfl rfl (yl_move rfl rfl) ?_
      refine wl_read rfl rfl rfl (yl_move rfl rfl) ?_
      refine wl_read rfl rfl rfl (yl_len rfl rfl Try.underlying25) ?_
      refine wl_read rfl rfl rfl (yl_move rfl rfl) ?_
      refine wl_read rfl rfl rfl (yl_len rfl rfl Try.underlying23) ?_
      refine wl_read rfl rfl rfl ((yp_neq rfl rfl rfl).2 (by rw [run_length, htl]; simp)) ?_
      refine wl_read rfl rfl rfl (yl_pickF rfl rfl rfl) ?_
      refine wl_nil ?_
      refine at_keep (Keep.cons 0 rfl (Keep.cons 1 rfl (Keep.cons 2 rfl (Keep.cons 3 rfl (Keep.cons 8 rfl (Keep.cons 9 rfl (Keep.cons 10 rfl (Keep.cons 11 rfl (Keep.cons 12 rfl (Keep.cons 13 rfl (Keep.cons 14 rfl (Keep.cons 15 rfl (Keep.cons 22 rfl (Keep.cons 76 rfl Keep.nil)))))))))))))) ?_
      refine at_false rfl ?_
      refine at_skip ?_
      refine at_seq ?_
      refine at_seq ?_
      refine at_region ?_
      refine wl_read rfl rfl rfl (yl_assign rfl rfl) ?_
      refine wl_nil ?_
      refine at_keep (Keep.cons 0 rfl (Keep.cons 1 rfl (Keep.cons 2 rfl (Keep.cons 3 rfl (Keep.cons 8 rfl (Keep.cons 9 rfl (Keep.cons 10 rfl (Keep.cons 11 rfl (Keep.cons 12 rfl (Keep.cons 13 rfl (Keep.cons 14 rfl (Keep.cons 15 rfl (Keep.cons 16 rfl (Keep.cons 22 rfl (Keep.cons 76 rfl Keep.nil))))))))))))))) ?_
      refine at_block ?_
      refine at_keep (L' := (fun (i : Nat) => [(9, .slice A1 s.length c1), (10, .slice A2 (run s).length c2), (14, .slice A4 (run t).length c4), (16, .int .i64 (i : Int))]) 0) (Keep.consEq 9 rfl rfl (Keep.consEq 10 rfl rfl (Keep.consEq 14 rfl rfl (Keep.consEq 16 rfl rfl Keep.nil)))) ?_
      refine at_loop1 (fun (i : Nat) => True) (fun (i : Nat) => [(9, .slice A1 s.length c1), (10, .slice A2 (run s).length c2), (14, .slice A4 (run t).length c4), (16, .int .i64 (i : Int))]) (fun (i : Nat) => Sl A4 c4 32 (run t) :: Sl A3 c3 37 t :: Sl A2 c2 32 (run s) :: Sl A1 c1 37 s :: H) (fun (i : Nat) => s.length - i) 0 trivial ?_
      intro i hI ih
      refine at_seq ?_
      refine at_seq ?_
      refine at_region ?_
      refine wl_read rfl rfl rfl (yl_move rfl rfl) ?_
      refine wl_read rfl rfl rfl (yl_move rfl rfl) ?_
      refine wl_read rfl rfl rfl (yl_len rfl rfl Try.underlying23) ?_
      refine wl_split rfl rfl rfl (yp_lss rfl rfl rfl) ?_ ?_
      · intro h12_3
        refine wl_nil ?_
        refine at_keep (Keep.cons 9 rfl (Keep.cons 10 rfl (Keep.cons 14 rfl (Keep.cons 16 rfl (Keep.cons 80 rfl Keep.nil))))) ?_
        refine at_true rfl ?_
        refine at_skip ?_
        refine at_seq ?_
        refine at_block ?_
        refine at_seq ?_
        have hi1 : i < s.length := by omega
        have hir : i < (run s).length := by rw [run_length]; exact hi1
        have hix : i < (run t).length := by rw [run_length]; omega
        have hle := run_mono s t htl.symm hmono hi1
        refine at_draw0 (.fl 0 (.fl 1 (.fl 2 (.fl 3 (.fl 4 (.fl 5 (.fl 6 (.fl 7 (.fl 8 (.fl 9 (.fl 10 .nil))))))))))) (by kernel_rfl) (by kernel_rfl) ?_
        refine wt_read rfl rfl rfl rfl (yl_move rfl rfl) ?_
        refine wt_read rfl rfl rfl rfl (yl_move rfl rfl) ?_
        refine wt_read rfl rfl rfl rfl (yl_index rfl rfl rfl (Rd.of_sl 0 rfl) (at_some hix) rfl rfl Try.underlying25 (by kernel_rfl) rfl) ?_
        refine wt_read rfl rfl rfl rfl (yl_field rfl rfl Try.underlying32 rfl (by kernel_rfl) rfl) ?_
        refine wt_read rfl rfl rfl rfl (yl_load rfl rfl Try.underlying3 rfl ((Rd.of_sl 0 rfl).cell2 (at_some hix) rfl)) ?_
        refine wt_read rfl rfl rfl rfl (yl_move rfl rfl) ?_
        refine wt_read rfl rfl rfl rfl (yl_move rfl rfl) ?_
        refine wt_read rfl rfl rfl rfl (yl_index rfl rfl rfl (Rd.of_sl 2 rfl) (at_some hir) rfl rfl Try.underlying25 (by kernel_rfl) rfl) ?_
        refine wt_read rfl rfl rfl rfl (yl_field rfl rfl Try.underlying32 rfl (by kernel_rfl) rfl) ?_
        refine wt_read rfl rfl rfl rfl (yl_load rfl rfl Try.underlying3 rfl ((Rd.of_sl 2 rfl).cell2 (at_some hir) rfl)) ?_
        refine wt_read rfl rfl rfl rfl ((yp_lss rfl rfl rfl).2 (by omega)) ?_
        refine wt_nil ?_
        refine at_keep (Keep.cons 9 rfl (Keep.cons 10 rfl (Keep.cons 14 rfl (Keep.cons 16 rfl (Keep.cons 80 rfl (Keep.cons 93 rfl Keep.nil)))))) ?_
        refine at_false rfl ?_
        refine at_skip ?_
        refine at_inBlock ?_
        refine at_region ?_
        refine wl_read rfl rfl rfl (yl_move rfl rfl) ?_
        refine wl_read rfl rfl rfl (yl_add rfl rfl rfl (w64 (by omega) (by omega))) ?_
        refine wl_read rfl rfl rfl (yl_assign rfl rfl) ?_
        refine wl_nil ?_
        refine at_keep (Keep.cons 9 rfl (Keep.cons 10 rfl (Keep.cons 14 rfl (Keep.cons 16 rfl (Keep.cons 80 rfl (Keep.cons 93 rfl Keep.nil)))))) ?_
        exact at_keep (L' := (fun (i : Nat) => [(9, .slice A1 s.length c1), (10, .slice A2 (run s).length c2), (14, .slice A4 (run t).length c4), (16, .int .i64 (i : Int))]) (i + 1)) (Keep.consEq 9 rfl rfl (Keep.consEq 10 rfl rfl (Keep.consEq 14 rfl rfl (Keep.consEq 16 rfl rfl Keep.nil)))) (ih (i + 1) trivial (by omega))
      · intro h12_3
        refine wl_nil ?_
        refine at_keep (Keep.cons 9 rfl (Keep.cons 10 rfl (Keep.cons 14 rfl (Keep.cons 16 rfl (Keep.cons 80 rfl Keep.nil))))) ?_
        refine at_false rfl ?_
        refine at_exit rfl ?_
        refine at_seq ?_
        refine at_region ?_
        refine wl_read rfl rfl rfl (yl_assign rfl rfl) ?_
        refine wl_nil ?_
        refine at_keep (Keep.cons 8 rfl (Keep.cons 9 rfl (Keep.cons 10 rfl (Keep.cons 14 rfl (Keep.cons 16 rfl (Keep.cons 80 rfl Keep.nil)))))) ?_
        refine at_retH (fun _ hw => hw.tail.tail.tail.tail) Try.func11 (res1 rfl rfl) ?_
        exact ⟨rfl, rfl⟩
    ·
      refine wt_call rfl rfl rfl rfl (en_call rfl rfl) (mod_fn _ _ _ _ (by omega) (by omega)) ?_
      rintro _ _ ⟨rfl, rfl⟩
      refine ⟨⟨[_], rfl⟩, ?_⟩
      refine wt_readE rfl rfl rfl rfl (yl_load rfl rfl Try.underlying3 rfl ((Rd.of_sl (xs := s) 0 rfl).cell2 (at_some hjl) rfl)) ⟨[_], rfl⟩ ?_
      refine wt_read rfl rfl rfl rfl (yl_add rfl rfl rfl (w64 (by omega) (by omega))) ?_
      refine wt_read rfl rfl rfl rfl (yl_min rfl rfl rfl) ?_
      refine wt_read rfl rfl rfl rfl (yl_indexS (α := Stage) rfl rfl rfl hA rfl hjl Try.underlying23 (by kernel_rfl) rfl) ?_
      refine wt_read rfl rfl rfl rfl (yl_field rfl rfl Try.underlying37 rfl (by kernel_rfl) rfl) ?_
      refine wt_store rfl rfl rfl (es_at0 (es_storeSl (α := Stage) 0 (⟨(at_ s j).month, (at_ s j).law, (at_ s j).ends, min 1000000000000 ((at_ s j).amount + md by' 10000)⟩ : Stage) rfl rfl rfl rfl (by kernel_rfl) rfl (at_some hjl) rfl rfl)) ⟨[_], rfl⟩ ?_
      rw [← ht]
      refine wt_nil ?_
      refine at_keep (Keep.cons 0 rfl (Keep.cons 1 rfl (Keep.cons 2 rfl (Keep.cons 3 rfl (Keep.cons 8 rfl (Keep.cons 9 rfl (Keep.cons 10 rfl (Keep.cons 11 rfl (Keep.cons 12 rfl (Keep.cons 13 rfl (Keep.cons 22 rfl Keep.nil))))))))))) ?_
      refine at_seq ?_
      refine at_region ?_
      refine wl_read rfl rfl rfl (yl_move rfl rfl) ?_
      refine wl_call rfl rfl rfl (en_call rfl rfl) (run_okL hvt htl (Rd.of_sl 0 rfl)) ?_
      rintro _ _ ⟨A4, c4, rfl, rfl⟩
      refine wl_read rfl rfl rfl (yl_move rfl rfl) ?_
      refine wl_read rfl rfl rfl (yl_extract rfl rfl rfl) ?_
      refine wl_read rfl rfl rfl (yl_extract rfl rfl rfl) ?_
      refine wl_read rfl rfl rfl (yl_assign rfl rfl) ?_
      refine wl_read rfl rfl rfl (yl_assign rfl rfl) ?_
      refine wl_nil ?_
      refine at_keep (Keep.cons 0 rfl (Keep.cons 1 rfl (Keep.cons 2 rfl (Keep.cons 3 rfl (Keep.cons 8 rfl (Keep.cons 9 rfl (Keep.cons 10 rfl (Keep.cons 11 rfl (Keep.cons 12 rfl (Keep.cons 13 rfl (Keep.cons 14 rfl (Keep.cons 15 rfl (Keep.cons 22 rfl Keep.nil))))))))))))) ?_
      refine at_seq ?_
      refine at_seq ?_
      refine at_region ?_
      refine wl_call rfl rfl rfl (en_call rfl rfl) (awake_fn _ _) ?_
      rintro _ _ ⟨rfl, rfl⟩
      refine wl_read rfl rfl rfl (yl_notT rfl rfl) ?_
      refine wl_read rfl rfl rfl (yl_move rfl rfl) ?_
      refine wl_read rfl rfl rfl (yl_move rfl rfl) ?_
      refine wl_read rfl rfl rfl ((yp_neq rfl rfl rfl).2 (by simp)) ?_
      refine wl_read rfl rfl rfl (yl_pickF rfl rfl rfl) ?_
      refine wl_read rfl rfl rfl (yl_move rfl rfl) ?_
      refine wl_read rfl rfl rfl (yl_move rfl rfl) ?_
      refine wl_read rfl rfl rfl ((yp_neq rfl rfl rfl).2 (by simp)) ?_
      refine wl_read rfl rfl rfl (yl_pickF rfl rfl rfl) ?_
      refine wl_read rfl rfl rfl (yl_move rfl rfl) ?_
      refine wl_read rfl rfl rfl (yl_move rfl rfl) ?_
      refine wl_read rfl rfl rfl (yl_len rfl rfl Try.underlying25) ?_
      refine wl_read rfl rfl rfl (yl_move rfl rfl) ?_
      refine wl_read rfl rfl rfl (yl_len rfl rfl Try.underlying23) ?_
      refine wl_read rfl rfl rfl ((yp_neq rfl rfl rfl).2 (by rw [run_length]; simp)) ?_
      refine wl_read rfl rfl rfl (yl_pickF rfl rfl rfl) ?_
      refine wl_read rfl rfl rfl (yl_move rfl rfl) ?_
      refine wl_read rfl rfl rfl (yl_move rfl rfl) ?_
      refine wl_read rfl rfl rfl (yl_len rfl rfl Try.underlying25) ?_
      refine wl_read rfl rfl rfl (yl_move rfl rfl) ?_
      refine wl_read rfl rfl rfl (yl_len rfl rfl Try.underlying23) ?_
      refine wl_read rfl rfl rfl ((yp_neq rfl rfl rfl).2 (by rw [run_length, htl]; simp)) ?_
      refine wl_read rfl rfl rfl (yl_pickF rfl rfl rfl) ?_
      refine wl_nil ?_
      refine at_keep (Keep.cons 0 rfl (Keep.cons 1 rfl (Keep.cons 2 rfl (Keep.cons 3 rfl (Keep.cons 8 rfl (Keep.cons 9 rfl (Keep.cons 10 rfl (Keep.cons 11 rfl (Keep.cons 12 rfl (Keep.cons 13 rfl (Keep.cons 14 rfl (Keep.cons 15 rfl (Keep.cons 22 rfl (Keep.cons 76 rfl Keep.nil)))))))))))))) ?_
      refine at_false rfl ?_
      refine at_skip ?_
      refine at_seq ?_
      refine at_seq ?_
      refine at_region ?_
      refine wl_read rfl rfl rfl (yl_assign rfl rfl) ?_
      refine wl_nil ?_
      refine at_keep (Keep.cons 0 rfl (Keep.cons 1 rfl (Keep.cons 2 rfl (Keep.cons 3 rfl (Keep.cons 8 rfl (Keep.cons 9 rfl (Keep.cons 10 rfl (Keep.cons 11 rfl (Keep.cons 12 rfl (Keep.cons 13 rfl (Keep.cons 14 rfl (Keep.cons 15 rfl (Keep.cons 16 rfl (Keep.cons 22 rfl (Keep.cons 76 rfl Keep.nil))))))))))))))) ?_
      refine at_block ?_
      refine at_keep (L' := (fun (i : Nat) => [(9, .slice A1 s.length c1), (10, .slice A2 (run s).length c2), (14, .slice A4 (run t).length c4), (16, .int .i64 (i : Int))]) 0) (Keep.consEq 9 rfl rfl (Keep.consEq 10 rfl rfl (Keep.consEq 14 rfl rfl (Keep.consEq 16 rfl rfl Keep.nil)))) ?_
      refine at_loop1 (fun (i : Nat) => True) (fun (i : Nat) => [(9, .slice A1 s.length c1), (10, .slice A2 (run s).length c2), (14, .slice A4 (run t).length c4), (16, .int .i64 (i : Int))]) (fun (i : Nat) => Sl A4 c4 32 (run t) :: Sl A3 c3 37 t :: Sl A2 c2 32 (run s) :: Sl A1 c1 37 s :: H) (fun (i : Nat) => s.length - i) 0 trivial ?_
      intro i hI ih
      refine at_seq ?_
      refine at_seq ?_
      refine at_region ?_
      refine wl_read rfl rfl rfl (yl_move rfl rfl) ?_
      refine wl_read rfl rfl rfl (yl_move rfl rfl) ?_
      refine wl_read rfl rfl rfl (yl_len rfl rfl Try.underlying23) ?_
      refine wl_split rfl rfl rfl (yp_lss rfl rfl rfl) ?_ ?_
      · intro h12_3
        refine wl_nil ?_
        refine at_keep (Keep.cons 9 rfl (Keep.cons 10 rfl (Keep.cons 14 rfl (Keep.cons 16 rfl (Keep.cons 80 rfl Keep.nil))))) ?_
        refine at_true rfl ?_
        refine at_skip ?_
        refine at_seq ?_
        refine at_block ?_
        refine at_seq ?_
        have hi1 : i < s.length := by omega
        have hir : i < (run s).length := by rw [run_length]; exact hi1
        have hix : i < (run t).length := by rw [run_length]; omega
        have hle := run_mono s t htl.symm hmono hi1
        refine at_draw0 (.fl 0 (.fl 1 (.fl 2 (.fl 3 (.fl 4 (.fl 5 (.fl 6 (.fl 7 (.fl 8 (.fl 9 (.fl 10 .nil))))))))))) (by kernel_rfl) (by kernel_rfl) ?_
        refine wt_read rfl rfl rfl rfl (yl_move rfl rfl) ?_
        refine wt_read rfl rfl rfl rfl (yl_move rfl rfl) ?_
        refine wt_read rfl rfl rfl rfl (yl_index rfl rfl rfl (Rd.of_sl 0 rfl) (at_some hix) rfl rfl Try.underlying25 (by kernel_rfl) rfl) ?_
        refine wt_read rfl rfl rfl rfl (yl_field rfl rfl Try.underlying32 rfl (by kernel_rfl) rfl) ?_
        refine wt_read rfl rfl rfl rfl (yl_load rfl rfl Try.underlying3 rfl ((Rd.of_sl 0 rfl).cell2 (at_some hix) rfl)) ?_
        refine wt_read rfl rfl rfl rfl (yl_move rfl rfl) ?_
        refine wt_read rfl rfl rfl rfl (yl_move rfl rfl) ?_
        refine wt_read rfl rfl rfl rfl (yl_index rfl rfl rfl (Rd.of_sl 2 rfl) (at_some hir) rfl rfl Try.underlying25 (by kernel_rfl) rfl) ?_
        refine wt_read rfl rfl rfl rfl (yl_field rfl rfl Try.underlying32 rfl (by kernel_rfl) rfl) ?_
        refine wt_read rfl rfl rfl rfl (yl_load rfl rfl Try.underlying3 rfl ((Rd.of_sl 2 rfl).cell2 (at_some hir) rfl)) ?_
        refine wt_read rfl rfl rfl rfl ((yp_lss rfl rfl rfl).2 (by omega)) ?_
        refine wt_nil ?_
        refine at_keep (Keep.cons 9 rfl (Keep.cons 10 rfl (Keep.cons 14 rfl (Keep.cons 16 rfl (Keep.cons 80 rfl (Keep.cons 93 rfl Keep.nil)))))) ?_
        refine at_false rfl ?_
        refine at_skip ?_
        refine at_inBlock ?_
        refine at_region ?_
        refine wl_read rfl rfl rfl (yl_move rfl rfl) ?_
        refine wl_read rfl rfl rfl (yl_add rfl rfl rfl (w64 (by omega) (by omega))) ?_
        refine wl_read rfl rfl rfl (yl_assign rfl rfl) ?_
        refine wl_nil ?_
        refine at_keep (Keep.cons 9 rfl (Keep.cons 10 rfl (Keep.cons 14 rfl (Keep.cons 16 rfl (Keep.cons 80 rfl (Keep.cons 93 rfl Keep.nil)))))) ?_
        exact at_keep (L' := (fun (i : Nat) => [(9, .slice A1 s.length c1), (10, .slice A2 (run s).length c2), (14, .slice A4 (run t).length c4), (16, .int .i64 (i : Int))]) (i + 1)) (Keep.consEq 9 rfl rfl (Keep.consEq 10 rfl rfl (Keep.consEq 14 rfl rfl (Keep.consEq 16 rfl rfl Keep.nil)))) (ih (i + 1) trivial (by omega))
      · intro h12_3
        refine wl_nil ?_
        refine at_keep (Keep.cons 9 rfl (Keep.cons 10 rfl (Keep.cons 14 rfl (Keep.cons 16 rfl (Keep.cons 80 rfl Keep.nil))))) ?_
        refine at_false rfl ?_
        refine at_exit rfl ?_
        refine at_seq ?_
        refine at_region ?_
        refine wl_read rfl rfl rfl (yl_assign rfl rfl) ?_
        refine wl_nil ?_
        refine at_keep (Keep.cons 8 rfl (Keep.cons 9 rfl (Keep.cons 10 rfl (Keep.cons 14 rfl (Keep.cons 16 rfl (Keep.cons 80 rfl Keep.nil)))))) ?_
        refine at_retH (fun _ hw => hw.tail.tail.tail.tail) Try.func11 (res1 rfl rfl) ?_
        exact ⟨rfl, rfl⟩
end Go.Proofs.Yteckaphnapljnaa

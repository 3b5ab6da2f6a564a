/- Walks of Same, Compress, At, and of their references. -/
import Derived.Test.YteckaphnapljnaaB
namespace Go.Proofs.Yteckaphnapljnaa
open Go

theorem eq32 (x y : Running) (w : World) : (Op.equalIn 10000 32 (.agg (Enc.cells x).toArray) (.agg (Enc.cells y).toArray)).run Try.prog w = .ok (decide (x = y)) w := by
  have hf : (Try.prog.fieldsOf 32).toList = [⟨ "Month", 3, 0, false, "", "", 0⟩, ⟨ "Amount", 3, 1, false, "", "", 8⟩, ⟨ "Protected", 4, 2, false, "", "", 16⟩] := by kernel_rfl
  rw [run_equalIn_agg w 9999 32 _ _ (by kernel_rfl) (by kernel_rfl), hf, eqf_int (a := x.month) (b := y.month) rfl Try.underlying3 rfl rfl, eqf_int (a := x.amount) (b := y.amount) rfl Try.underlying3 rfl rfl, eqf_bool (a := x.prot) (b := y.prot) rfl Try.underlying4 rfl rfl, eqf_nil]
  obtain ⟨a, b, c⟩ := x
  obtain ⟨a', b', c'⟩ := y
  by_cases h1 : a = a' <;> by_cases h2 : b = b' <;> by_cases h3 : c = c' <;> simp [h1, h2, h3]
theorem eqT32 (x y : Running) (h : x = y) (w : World) : (Op.equalIn 10000 32 (.agg (Enc.cells x).toArray) (.agg (Enc.cells y).toArray)).run Try.prog w = .ok true w := by rw [eq32]; simp [h]
theorem eqF32 (x y : Running) (h : ¬ x = y) (w : World) : (Op.equalIn 10000 32 (.agg (Enc.cells x).toArray) (.agg (Enc.cells y).toArray)).run Try.prog w = .ok false w := by rw [eq32]; simp [h]

theorem same_fn (xs ys : List Running) (A A2 : Option Addr) (c c2 : Nat) (b : World) (H : List Asr) (hR : Rd H A xs) (hR2 : Rd H A2 ys) (hl : xs.length ≤ 140737488355328) :
    Fn Try.prog 18 [.slice A xs.length c, .slice A2 ys.length c2] b H (fun v H' => v = .bool (decide (xs = ys)) ∧ H = H') := by
  refine fn_of_at (by kernel_rfl) Try.func18 rfl Try.ntmps18 rfl rfl ?_
  refine at_seq ?_
  refine at_region ?_
  refine wl_read rfl rfl rfl (yl_assign rfl rfl) ?_
  refine wl_nil ?_
  refine at_keep (Keep.cons 0 rfl (Keep.cons 1 rfl (Keep.cons 4 rfl Keep.nil))) ?_
  refine at_seq ?_
  refine at_seq ?_
  refine at_region ?_
  refine wl_read rfl rfl rfl (yl_move rfl rfl) ?_
  refine wl_read rfl rfl rfl (yl_len rfl rfl Try.underlying25) ?_
  refine wl_read rfl rfl rfl (yl_move rfl rfl) ?_
  refine wl_read rfl rfl rfl (yl_len rfl rfl Try.underlying25) ?_
  refine wl_split rfl rfl rfl (yp_neq rfl rfl rfl) ?_ ?_
  · intro h1_4
    refine wl_nil ?_
    refine at_keep (Keep.cons 0 rfl (Keep.cons 1 rfl (Keep.cons 4 rfl (Keep.cons 10 rfl Keep.nil)))) ?_
    refine at_true rfl ?_
    refine at_seq ?_
    refine at_region ?_
    refine wl_read rfl rfl rfl (yl_assign rfl rfl) ?_
    refine wl_nil ?_
    refine at_keep (Keep.cons 0 rfl (Keep.cons 1 rfl (Keep.cons 4 rfl (Keep.cons 10 rfl Keep.nil)))) ?_
    refine at_ret Try.func18 (res1 rfl rfl) ?_
    exact ⟨by rw [decide_eq_false (fun h => h1_4 (by rw [h]))], rfl⟩
  · intro h1_4
    refine wl_nil ?_
    refine at_keep (Keep.cons 0 rfl (Keep.cons 1 rfl (Keep.cons 4 rfl (Keep.cons 10 rfl Keep.nil)))) ?_
    refine at_false rfl ?_
    refine at_skip ?_
    refine at_seq ?_
    refine at_seq ?_
    have hlen : xs.length = ys.length := by omega
    refine at_region ?_
    refine wl_read rfl rfl rfl (yl_assign rfl rfl) ?_
    refine wl_nil ?_
    refine at_keep (Keep.cons 0 rfl (Keep.cons 1 rfl (Keep.cons 4 rfl (Keep.cons 5 rfl (Keep.cons 10 rfl Keep.nil))))) ?_
    refine at_block ?_
    refine at_keep (L' := (fun k => [(0, .slice A xs.length c), (1, .slice A2 ys.length c2), (5, .int .i64 (k : Int))]) 0) (Keep.consEq 0 rfl rfl (Keep.consEq 1 rfl rfl (Keep.consEq 5 rfl rfl Keep.nil))) ?_
    refine at_loop1 (fun k => k ≤ xs.length ∧ ∀ i, i < k → at_ xs i = at_ ys i) (fun k => [(0, .slice A xs.length c), (1, .slice A2 ys.length c2), (5, .int .i64 (k : Int))]) (fun k => H) (fun k => xs.length - k) 0 ⟨by omega, fun i hi => absurd hi (by omega)⟩ ?_
    intro k hI ih
    obtain ⟨hI1, hI2⟩ := hI
    refine at_seq ?_
    refine at_seq ?_
    refine at_region ?_
    refine wl_read rfl rfl rfl (yl_move rfl rfl) ?_
    refine wl_read rfl rfl rfl (yl_move rfl rfl) ?_
    refine wl_read rfl rfl rfl (yl_len rfl rfl Try.underlying25) ?_
    refine wl_split rfl rfl rfl (yp_lss rfl rfl rfl) ?_ ?_
    · intro h4_3
      refine wl_nil ?_
      refine at_keep (Keep.cons 0 rfl (Keep.cons 1 rfl (Keep.cons 5 rfl (Keep.cons 14 rfl Keep.nil)))) ?_
      refine at_true rfl ?_
      refine at_skip ?_
      refine at_seq ?_
      refine at_block ?_
      refine at_seq ?_
      have hk1 : k < xs.length := by omega
      have hk2 : k < ys.length := by omega
      refine at_draw0 (.fl 0 (.fl 1 (.fl 2 (.fl 3 (.fl 4 (.fl 5 (.fl 6 (.fl 7 (.fl 8 .nil))))))))) (by kernel_rfl) (by kernel_rfl) ?_
      refine wt_read rfl rfl rfl rfl (yl_move rfl rfl) ?_
      refine wt_read rfl rfl rfl rfl (yl_move rfl rfl) ?_
      refine wt_read rfl rfl rfl rfl (yl_index rfl rfl rfl hR (at_some hk1) rfl rfl Try.underlying25 (by kernel_rfl) rfl) ?_
      refine wt_read rfl rfl rfl rfl (yl_loadRow rfl rfl hR (at_some hk1) Try.underlying32 rfl (by kernel_rfl) rfl) ?_
      refine wt_read rfl rfl rfl rfl (yl_move rfl rfl) ?_
      refine wt_read rfl rfl rfl rfl (yl_move rfl rfl) ?_
      refine wt_read rfl rfl rfl rfl (yl_index rfl rfl rfl hR2 (at_some hk2) rfl rfl Try.underlying25 (by kernel_rfl) rfl) ?_
      refine wt_read rfl rfl rfl rfl (yl_loadRow rfl rfl hR2 (at_some hk2) Try.underlying32 rfl (by kernel_rfl) rfl) ?_
      refine wt_split rfl rfl rfl rfl (yp_neAgg rfl rfl rfl (by kernel_rfl) (eqT32 _ _) (eqF32 _ _)) ?_ ?_
      · intro h6_8
        refine wt_nil ?_
        refine at_keep (Keep.cons 0 rfl (Keep.cons 1 rfl (Keep.cons 5 rfl (Keep.cons 14 rfl (Keep.cons 25 rfl Keep.nil))))) ?_
        refine at_true rfl ?_
        refine at_seq ?_
        refine at_region ?_
        refine wl_read rfl rfl rfl (yl_assign rfl rfl) ?_
        refine wl_nil ?_
        refine at_keep (Keep.cons 0 rfl (Keep.cons 1 rfl (Keep.cons 4 rfl (Keep.cons 5 rfl (Keep.cons 14 rfl (Keep.cons 25 rfl Keep.nil)))))) ?_
        refine at_ret Try.func18 (res1 rfl rfl) ?_
        exact ⟨by rw [decide_eq_false (fun h => h6_8 (by rw [h]))], rfl⟩
      · intro h6_8
        refine wt_nil ?_
        refine at_keep (Keep.cons 0 rfl (Keep.cons 1 rfl (Keep.cons 5 rfl (Keep.cons 14 rfl (Keep.cons 25 rfl Keep.nil))))) ?_
        refine at_false rfl ?_
        refine at_skip ?_
        refine at_inBlock ?_
        refine at_region ?_
        refine wl_read rfl rfl rfl (yl_move rfl rfl) ?_
        refine wl_read rfl rfl rfl (yl_add rfl rfl rfl (w64 (by omega) (by omega))) ?_
        refine wl_read rfl rfl rfl (yl_assign rfl rfl) ?_
        refine wl_nil ?_
        refine at_keep (Keep.cons 0 rfl (Keep.cons 1 rfl (Keep.cons 5 rfl (Keep.cons 14 rfl (Keep.cons 25 rfl Keep.nil))))) ?_
        exact at_keep (L' := (fun k => [(0, .slice A xs.length c), (1, .slice A2 ys.length c2), (5, .int .i64 (k : Int))]) (k + 1)) (Keep.consEq 0 rfl rfl (Keep.consEq 1 rfl rfl (Keep.consEq 5 rfl rfl Keep.nil))) (ih (k + 1) ⟨by omega, fun i hi => by
      rcases Nat.lt_or_ge i k with h | h
      · exact hI2 i h
      · have e : i = k := by omega
        subst e; exact Decidable.not_not.1 h6_8⟩ (by omega))
    · intro h4_3
      refine wl_nil ?_
      refine at_keep (Keep.cons 0 rfl (Keep.cons 1 rfl (Keep.cons 5 rfl (Keep.cons 14 rfl Keep.nil)))) ?_
      refine at_false rfl ?_
      refine at_exit rfl ?_
      refine at_seq ?_
      refine at_region ?_
      refine wl_read rfl rfl rfl (yl_assign rfl rfl) ?_
      refine wl_nil ?_
      refine at_keep (Keep.cons 0 rfl (Keep.cons 1 rfl (Keep.cons 4 rfl (Keep.cons 5 rfl (Keep.cons 14 rfl Keep.nil))))) ?_
      refine at_ret Try.func18 (res1 rfl rfl) ?_
      exact ⟨by rw [decide_eq_true (ext_at hlen (fun i hi => hI2 i (by omega)))], rfl⟩
theorem compress_fn (l : List Running) (A : Option Addr) (c : Nat) (b : World) (H : List Asr) (hR : Rd H A l) (hl : l.length * 24 ≤ 140737488355328) :
    Fn Try.prog 22 [.slice A l.length c] b H (fun v H' => ∃ A' c', v = .slice A' (compress l).length c' ∧ H' = Sl A' c' 32 (compress l) :: H) := by
  refine fn_of_at (by kernel_rfl) Try.func22 rfl Try.ntmps22 rfl rfl ?_
  refine at_seq ?_
  refine at_region ?_
  refine wl_read rfl rfl rfl (yl_assign rfl rfl) ?_
  refine wl_nil ?_
  refine at_keep (Keep.cons 0 rfl (Keep.cons 2 rfl Keep.nil)) ?_
  refine at_seq ?_
  refine at_region ?_
  refine wl_read rfl rfl rfl (yl_assign rfl rfl) ?_
  refine wl_nil ?_
  refine at_keep (Keep.cons 0 rfl (Keep.cons 2 rfl (Keep.cons 3 rfl Keep.nil))) ?_
  refine at_seq ?_
  refine at_seq ?_
  refine at_region ?_
  refine wl_read rfl rfl rfl (yl_move rfl rfl) ?_
  refine wl_read rfl rfl rfl (yl_len rfl rfl Try.underlying25) ?_
  refine wl_read rfl rfl rfl (yl_move rfl rfl) ?_
  refine wl_nil ?_
  refine at_keep (Keep.cons 0 rfl (Keep.cons 2 rfl (Keep.cons 3 rfl (Keep.cons 6 rfl (Keep.cons 7 rfl (Keep.cons 8 rfl Keep.nil)))))) ?_
  refine at_block ?_
  refine at_keep (L' := (fun A1 c1 k => [(0, .slice A l.length c), (3, .slice A1 (cmps l k).length c1), (6, .slice A l.length c), (7, .int .i64 (l.length : Int)), (8, .int .i64 (k : Int))]) none 0 0) (Keep.consEq 0 rfl rfl (Keep.consEq 3 rfl rfl (Keep.consEq 6 rfl rfl (Keep.consEq 7 rfl rfl (Keep.consEq 8 rfl rfl Keep.nil))))) ?_
  refine at_heap (fun _ hw => hw.nilSl (α := Running) 32) ?_
  refine at_loop3 (fun A1 c1 k => k ≤ l.length) (fun A1 c1 k => [(0, .slice A l.length c), (3, .slice A1 (cmps l k).length c1), (6, .slice A l.length c), (7, .int .i64 (l.length : Int)), (8, .int .i64 (k : Int))]) (fun A1 c1 k => Sl A1 c1 32 (cmps l k) :: H) (fun A1 c1 k => l.length - k) none 0 0 (by omega) ?_
  intro A1 c1 k hI ih
  have hcl := cmps_length l k
  refine at_seq ?_
  refine at_region ?_
  refine wl_split rfl rfl rfl (yp_lss rfl rfl rfl) ?_ ?_
  · intro h3_0
    refine wl_nil ?_
    refine at_keep (Keep.cons 0 rfl (Keep.cons 3 rfl (Keep.cons 6 rfl (Keep.cons 7 rfl (Keep.cons 8 rfl (Keep.cons 9 rfl Keep.nil)))))) ?_
    refine at_seq ?_
    refine at_true rfl ?_
    refine at_skip ?_
    refine at_seq ?_
    refine at_block ?_
    refine at_seq ?_
    have hk1 : k < l.length := by omega
    refine at_region ?_
    refine wl_read rfl rfl rfl (yl_move rfl rfl) ?_
    refine wl_read rfl rfl rfl (yl_index rfl rfl rfl (hR.cons _) (at_some hk1) rfl rfl Try.underlying25 (by kernel_rfl) rfl) ?_
    refine wl_read rfl rfl rfl (yl_loadRow rfl rfl (hR.cons _) (at_some hk1) Try.underlying32 rfl (by kernel_rfl) rfl) ?_
    refine wl_eff rfl rfl rfl (ef_alloc (cs := [.int .i64 0, .int .i64 0, .bool false]) (z := .agg #[.int .i64 0, .int .i64 0, .bool false]) rfl (by kernel_rfl) rfl) ?_
    rintro _ _ ⟨g4_3, rfl, rfl⟩
    refine wl_read rfl rfl rfl (yl_assign rfl rfl) ?_
    refine wl_store rfl rfl (es_at0 (es_storeN 0 rfl rfl rfl rfl (by kernel_rfl) rfl rfl)) ?_
    refine wl_nil ?_
    refine at_keep (Keep.cons 0 rfl (Keep.cons 3 rfl (Keep.cons 4 rfl (Keep.cons 5 rfl (Keep.cons 6 rfl (Keep.cons 7 rfl (Keep.cons 8 rfl (Keep.cons 9 rfl Keep.nil)))))))) ?_
    refine at_seq ?_
    refine at_draw0 (.fl 0 (.fl 1 (.fl 2 (.fl 3 (.fl 4 (.fl 5 (.fl 6 (.fl 7 (.fl 8 (.fl 9 (.fl 10 (.fl 11 (.fl 12 (.fl 13 (.fl 14 (.fl 15 (.fl 16 (.fl 17 (.fl 18 (.fl 19 (.fl 20 (.fl 21 (.fl 22 (.fl 23 .nil)))))))))))))))))))))))) (by kernel_rfl) (by kernel_rfl) ?_
    refine wt_read rfl rfl rfl rfl (yl_move rfl rfl) ?_
    refine wt_split rfl rfl rfl rfl (yp_eql rfl rfl rfl) ?_ ?_
    · intro h5_1
      refine wt_read rfl rfl rfl rfl (yl_move rfl rfl) ?_
      refine wt_skip rfl rfl rfl rfl ?_
      refine wt_skip rfl rfl rfl rfl ?_
      refine wt_skip rfl rfl rfl rfl ?_
      refine wt_skip rfl rfl rfl rfl ?_
      refine wt_skip rfl rfl rfl rfl ?_
      refine wt_skip rfl rfl rfl rfl ?_
      refine wt_skip rfl rfl rfl rfl ?_
      refine wt_skip rfl rfl rfl rfl ?_
      refine wt_skip rfl rfl rfl rfl ?_
      refine wt_read rfl rfl rfl rfl (yl_pickT rfl rfl rfl) ?_
      refine wt_read rfl rfl rfl rfl (yl_move rfl rfl) ?_
      refine wt_skip rfl rfl rfl rfl ?_
      refine wt_skip rfl rfl rfl rfl ?_
      refine wt_skip rfl rfl rfl rfl ?_
      refine wt_skip rfl rfl rfl rfl ?_
      refine wt_skip rfl rfl rfl rfl ?_
      refine wt_skip rfl rfl rfl rfl ?_
      refine wt_skip rfl rfl rfl rfl ?_
      refine wt_skip rfl rfl rfl rfl ?_
      refine wt_skip rfl rfl rfl rfl ?_
      refine wt_read rfl rfl rfl rfl (yl_pickT rfl rfl rfl) ?_
      refine wt_nil ?_
      refine at_keep (Keep.cons 0 rfl (Keep.cons 3 rfl (Keep.cons 4 rfl (Keep.cons 5 rfl (Keep.cons 6 rfl (Keep.cons 7 rfl (Keep.cons 8 rfl (Keep.cons 9 rfl (Keep.cons 36 rfl Keep.nil))))))))) ?_
      refine at_true rfl ?_
      have hch : chg l k := .inl (by omega)
      refine at_region ?_
      refine wl_read rfl rfl rfl (yl_move rfl rfl) ?_
      refine wl_read rfl rfl rfl (yl_loadBk 0 rfl rfl rfl Try.underlying32 rfl (by kernel_rfl)) ?_
      refine wl_eff rfl rfl rfl (ef_buildSlice (e := 32) [at_ l k] rfl rfl (fun _ => by kernel_rfl) rfl rfl) ?_
      rintro _ _ ⟨T6_2, rfl, rfl⟩
      refine wl_eff rfl rfl rfl (ef_append (ys := [at_ l k]) 2 rfl rfl rfl rfl (Rd.of_sl 0 rfl) Try.underlying25 info32 rfl rfl (by simp only [List.length_singleton, maxLen]; omega) (by simp only [List.length_singleton]; omega)) ?_
      rintro _ _ ⟨A2, c2, rfl, hH⟩
      simp only [List.set_cons_succ, List.set_cons_zero] at hH; subst hH
      rw [← cmps_yes l k hch]
      refine wl_heap (fun _ hw => hw.tail.tail) ?_
      refine wl_read rfl rfl rfl (yl_assign rfl rfl) ?_
      refine wl_nil ?_
      refine at_keep (Keep.cons 0 rfl (Keep.cons 3 rfl (Keep.cons 4 rfl (Keep.cons 5 rfl (Keep.cons 6 rfl (Keep.cons 7 rfl (Keep.cons 8 rfl (Keep.cons 9 rfl (Keep.cons 36 rfl Keep.nil))))))))) ?_
      refine at_inBlock ?_
      
      refine at_region ?_
      refine wl_read rfl rfl rfl (yl_add rfl rfl rfl (w64 (by omega) (by omega))) ?_
      refine wl_read rfl rfl rfl (yl_move rfl rfl) ?_
      refine wl_nil ?_
      refine at_keep (Keep.cons 0 rfl (Keep.cons 3 rfl (Keep.cons 4 rfl (Keep.cons 5 rfl (Keep.cons 6 rfl (Keep.cons 7 rfl (Keep.cons 8 rfl (Keep.cons 9 rfl (Keep.cons 36 rfl Keep.nil))))))))) ?_
      exact at_keep (L' := (fun A1 c1 k => [(0, .slice A l.length c), (3, .slice A1 (cmps l k).length c1), (6, .slice A l.length c), (7, .int .i64 (l.length : Int)), (8, .int .i64 (k : Int))]) A2 c2 (k + 1)) (Keep.consEq 0 rfl rfl (Keep.consEq 3 rfl rfl (Keep.consEq 6 rfl rfl (Keep.consEq 7 rfl rfl (Keep.consEq 8 rfl rfl Keep.nil))))) (ih A2 c2 (k + 1) (by omega) (by omega))
    · intro h5_1
      refine wt_read rfl rfl rfl rfl (yl_move rfl rfl) ?_
      refine wt_read rfl rfl rfl rfl (yl_fieldB rfl rfl Try.underlying32 rfl (by kernel_rfl) rfl) ?_
      refine wt_read rfl rfl rfl rfl (yl_load rfl rfl Try.underlying3 rfl (CellAt.bk 0 rfl rfl)) ?_
      refine wt_read rfl rfl rfl rfl (yl_move rfl rfl) ?_
      refine wt_read rfl rfl rfl rfl (yl_move rfl rfl) ?_
      refine wt_read rfl rfl rfl rfl (yl_sub rfl rfl rfl (w64 (by omega) (by omega))) ?_
      refine wt_read rfl rfl rfl rfl (yl_index rfl rfl rfl ((hR.cons _).cons _) (at_some (show k - 1 < l.length by omega)) (by omega) rfl Try.underlying25 (by kernel_rfl) rfl) ?_
      refine wt_read rfl rfl rfl rfl (yl_field rfl rfl Try.underlying32 rfl (by kernel_rfl) rfl) ?_
      refine wt_read rfl rfl rfl rfl (yl_load rfl rfl Try.underlying3 rfl (((hR.cons _).cons _).cell2 (at_some (show k - 1 < l.length by omega)) rfl)) ?_
      refine wt_split rfl rfl rfl rfl (yp_neq rfl rfl rfl) ?_ ?_
      · intro h5_11
        refine wt_read rfl rfl rfl rfl (yl_pickF rfl rfl rfl) ?_
        refine wt_read rfl rfl rfl rfl (yl_move rfl rfl) ?_
        refine wt_skip rfl rfl rfl rfl ?_
        refine wt_skip rfl rfl rfl rfl ?_
        refine wt_skip rfl rfl rfl rfl ?_
        refine wt_skip rfl rfl rfl rfl ?_
        refine wt_skip rfl rfl rfl rfl ?_
        refine wt_skip rfl rfl rfl rfl ?_
        refine wt_skip rfl rfl rfl rfl ?_
        refine wt_skip rfl rfl rfl rfl ?_
        refine wt_skip rfl rfl rfl rfl ?_
        refine wt_read rfl rfl rfl rfl (yl_pickT rfl rfl rfl) ?_
        refine wt_nil ?_
        refine at_keep (Keep.cons 0 rfl (Keep.cons 3 rfl (Keep.cons 4 rfl (Keep.cons 5 rfl (Keep.cons 6 rfl (Keep.cons 7 rfl (Keep.cons 8 rfl (Keep.cons 9 rfl (Keep.cons 36 rfl Keep.nil))))))))) ?_
        refine at_true rfl ?_
        have hch : chg l k := .inr (.inl h5_11)
        refine at_region ?_
        refine wl_read rfl rfl rfl (yl_move rfl rfl) ?_
        refine wl_read rfl rfl rfl (yl_loadBk 0 rfl rfl rfl Try.underlying32 rfl (by kernel_rfl)) ?_
        refine wl_eff rfl rfl rfl (ef_buildSlice (e := 32) [at_ l k] rfl rfl (fun _ => by kernel_rfl) rfl rfl) ?_
        rintro _ _ ⟨T6_2, rfl, rfl⟩
        refine wl_eff rfl rfl rfl (ef_append (ys := [at_ l k]) 2 rfl rfl rfl rfl (Rd.of_sl 0 rfl) Try.underlying25 info32 rfl rfl (by simp only [List.length_singleton, maxLen]; omega) (by simp only [List.length_singleton]; omega)) ?_
        rintro _ _ ⟨A2, c2, rfl, hH⟩
        simp only [List.set_cons_succ, List.set_cons_zero] at hH; subst hH
        rw [← cmps_yes l k hch]
        refine wl_heap (fun _ hw => hw.tail.tail) ?_
        refine wl_read rfl rfl rfl (yl_assign rfl rfl) ?_
        refine wl_nil ?_
        refine at_keep (Keep.cons 0 rfl (Keep.cons 3 rfl (Keep.cons 4 rfl (Keep.cons 5 rfl (Keep.cons 6 rfl (Keep.cons 7 rfl (Keep.cons 8 rfl (Keep.cons 9 rfl (Keep.cons 36 rfl Keep.nil))))))))) ?_
        refine at_inBlock ?_
        
        refine at_region ?_
        refine wl_read rfl rfl rfl (yl_add rfl rfl rfl (w64 (by omega) (by omega))) ?_
        refine wl_read rfl rfl rfl (yl_move rfl rfl) ?_
        refine wl_nil ?_
        refine at_keep (Keep.cons 0 rfl (Keep.cons 3 rfl (Keep.cons 4 rfl (Keep.cons 5 rfl (Keep.cons 6 rfl (Keep.cons 7 rfl (Keep.cons 8 rfl (Keep.cons 9 rfl (Keep.cons 36 rfl Keep.nil))))))))) ?_
        exact at_keep (L' := (fun A1 c1 k => [(0, .slice A l.length c), (3, .slice A1 (cmps l k).length c1), (6, .slice A l.length c), (7, .int .i64 (l.length : Int)), (8, .int .i64 (k : Int))]) A2 c2 (k + 1)) (Keep.consEq 0 rfl rfl (Keep.consEq 3 rfl rfl (Keep.consEq 6 rfl rfl (Keep.consEq 7 rfl rfl (Keep.consEq 8 rfl rfl Keep.nil))))) (ih A2 c2 (k + 1) (by omega) (by omega))
      · intro h5_11
        refine wt_read rfl rfl rfl rfl (yl_pickF rfl rfl rfl) ?_
        refine wt_read rfl rfl rfl rfl (yl_move rfl rfl) ?_
        refine wt_read rfl rfl rfl rfl (yl_fieldB rfl rfl Try.underlying32 rfl (by kernel_rfl) rfl) ?_
        refine wt_read rfl rfl rfl rfl (yl_load rfl rfl Try.underlying4 rfl (CellAt.bk 0 rfl rfl)) ?_
        refine wt_read rfl rfl rfl rfl (yl_move rfl rfl) ?_
        refine wt_read rfl rfl rfl rfl (yl_move rfl rfl) ?_
        refine wt_read rfl rfl rfl rfl (yl_sub rfl rfl rfl (w64 (by omega) (by omega))) ?_
        refine wt_read rfl rfl rfl rfl (yl_index rfl rfl rfl ((hR.cons _).cons _) (at_some (show k - 1 < l.length by omega)) (by omega) rfl Try.underlying25 (by kernel_rfl) rfl) ?_
        refine wt_read rfl rfl rfl rfl (yl_field rfl rfl Try.underlying32 rfl (by kernel_rfl) rfl) ?_
        refine wt_read rfl rfl rfl rfl (yl_load rfl rfl Try.underlying4 rfl (((hR.cons _).cons _).cell2 (at_some (show k - 1 < l.length by omega)) rfl)) ?_
        refine wt_split rfl rfl rfl rfl (yp_neb rfl rfl rfl Try.underlying4) ?_ ?_
        · intro h5_22
          refine wt_read rfl rfl rfl rfl (yl_pickF rfl rfl rfl) ?_
          refine wt_nil ?_
          refine at_keep (Keep.cons 0 rfl (Keep.cons 3 rfl (Keep.cons 4 rfl (Keep.cons 5 rfl (Keep.cons 6 rfl (Keep.cons 7 rfl (Keep.cons 8 rfl (Keep.cons 9 rfl (Keep.cons 36 rfl Keep.nil))))))))) ?_
          refine at_true rfl ?_
          have hch : chg l k := .inr (.inr h5_22)
          refine at_region ?_
          refine wl_read rfl rfl rfl (yl_move rfl rfl) ?_
          refine wl_read rfl rfl rfl (yl_loadBk 0 rfl rfl rfl Try.underlying32 rfl (by kernel_rfl)) ?_
          refine wl_eff rfl rfl rfl (ef_buildSlice (e := 32) [at_ l k] rfl rfl (fun _ => by kernel_rfl) rfl rfl) ?_
          rintro _ _ ⟨T6_2, rfl, rfl⟩
          refine wl_eff rfl rfl rfl (ef_append (ys := [at_ l k]) 2 rfl rfl rfl rfl (Rd.of_sl 0 rfl) Try.underlying25 info32 rfl rfl (by simp only [List.length_singleton, maxLen]; omega) (by simp only [List.length_singleton]; omega)) ?_
          rintro _ _ ⟨A2, c2, rfl, hH⟩
          simp only [List.set_cons_succ, List.set_cons_zero] at hH; subst hH
          rw [← cmps_yes l k hch]
          refine wl_heap (fun _ hw => hw.tail.tail) ?_
          refine wl_read rfl rfl rfl (yl_assign rfl rfl) ?_
          refine wl_nil ?_
          refine at_keep (Keep.cons 0 rfl (Keep.cons 3 rfl (Keep.cons 4 rfl (Keep.cons 5 rfl (Keep.cons 6 rfl (Keep.cons 7 rfl (Keep.cons 8 rfl (Keep.cons 9 rfl (Keep.cons 36 rfl Keep.nil))))))))) ?_
          refine at_inBlock ?_
          
          refine at_region ?_
          refine wl_read rfl rfl rfl (yl_add rfl rfl rfl (w64 (by omega) (by omega))) ?_
          refine wl_read rfl rfl rfl (yl_move rfl rfl) ?_
          refine wl_nil ?_
          refine at_keep (Keep.cons 0 rfl (Keep.cons 3 rfl (Keep.cons 4 rfl (Keep.cons 5 rfl (Keep.cons 6 rfl (Keep.cons 7 rfl (Keep.cons 8 rfl (Keep.cons 9 rfl (Keep.cons 36 rfl Keep.nil))))))))) ?_
          exact at_keep (L' := (fun A1 c1 k => [(0, .slice A l.length c), (3, .slice A1 (cmps l k).length c1), (6, .slice A l.length c), (7, .int .i64 (l.length : Int)), (8, .int .i64 (k : Int))]) A2 c2 (k + 1)) (Keep.consEq 0 rfl rfl (Keep.consEq 3 rfl rfl (Keep.consEq 6 rfl rfl (Keep.consEq 7 rfl rfl (Keep.consEq 8 rfl rfl Keep.nil))))) (ih A2 c2 (k + 1) (by omega) (by omega))
        · intro h5_22
          refine wt_read rfl rfl rfl rfl (yl_pickF rfl rfl rfl) ?_
          refine wt_nil ?_
          refine at_keep (Keep.cons 0 rfl (Keep.cons 3 rfl (Keep.cons 4 rfl (Keep.cons 5 rfl (Keep.cons 6 rfl (Keep.cons 7 rfl (Keep.cons 8 rfl (Keep.cons 9 rfl (Keep.cons 36 rfl Keep.nil))))))))) ?_
          refine at_false rfl ?_
          refine at_skip ?_
          refine at_inBlock ?_
          refine at_heap (fun _ hw => hw.tail) ?_
          have hch : ¬ chg l k := by
            unfold chg
            rintro (h | h | h)
            · omega
            · exact h5_11 h
            · exact h5_22 h
          rw [← cmps_no l k hch]
          refine at_region ?_
          refine wl_read rfl rfl rfl (yl_add rfl rfl rfl (w64 (by omega) (by omega))) ?_
          refine wl_read rfl rfl rfl (yl_move rfl rfl) ?_
          refine wl_nil ?_
          refine at_keep (Keep.cons 0 rfl (Keep.cons 3 rfl (Keep.cons 4 rfl (Keep.cons 5 rfl (Keep.cons 6 rfl (Keep.cons 7 rfl (Keep.cons 8 rfl (Keep.cons 9 rfl (Keep.cons 36 rfl Keep.nil))))))))) ?_
          exact at_keep (L' := (fun A1 c1 k => [(0, .slice A l.length c), (3, .slice A1 (cmps l k).length c1), (6, .slice A l.length c), (7, .int .i64 (l.length : Int)), (8, .int .i64 (k : Int))]) A1 c1 (k + 1)) (Keep.consEq 0 rfl rfl (Keep.consEq 3 rfl rfl (Keep.consEq 6 rfl rfl (Keep.consEq 7 rfl rfl (Keep.consEq 8 rfl rfl Keep.nil))))) (ih A1 c1 (k + 1) (by omega) (by omega))
  · intro h3_0
    refine wl_nil ?_
    refine at_keep (Keep.cons 0 rfl (Keep.cons 3 rfl (Keep.cons 6 rfl (Keep.cons 7 rfl (Keep.cons 8 rfl (Keep.cons 9 rfl Keep.nil)))))) ?_
    refine at_seq ?_
    refine at_false rfl ?_
    refine at_exit rfl ?_
    refine at_seq ?_
    refine at_region ?_
    refine wl_read rfl rfl rfl (yl_move rfl rfl) ?_
    refine wl_read rfl rfl rfl (yl_assign rfl rfl) ?_
    refine wl_nil ?_
    refine at_keep (Keep.cons 0 rfl (Keep.cons 2 rfl (Keep.cons 3 rfl (Keep.cons 6 rfl (Keep.cons 7 rfl (Keep.cons 8 rfl (Keep.cons 9 rfl Keep.nil))))))) ?_
    refine at_ret Try.func22 (res1 rfl rfl) ?_
    have e : k = l.length := by omega
    exact ⟨A1, c1, by unfold compress; rw [← e], by unfold compress; rw [← e]⟩
theorem refcompress_fn (l : List Running) (A : Option Addr) (c : Nat) (b : World) (H : List Asr) (hR : Rd H A l) (hl : l.length * 24 ≤ 140737488355328) :
    Fn Try.prog 23 [.slice A l.length c] b H (fun v H' => ∃ A' c', v = .slice A' (compress l).length c' ∧ H' = Sl A' c' 32 (compress l) :: H) := by
  refine fn_of_at (by kernel_rfl) Try.func23 rfl Try.ntmps23 rfl rfl ?_
  refine at_seq ?_
  refine at_region ?_
  refine wl_read rfl rfl rfl (yl_assign rfl rfl) ?_
  refine wl_nil ?_
  refine at_keep (Keep.cons 0 rfl (Keep.cons 2 rfl Keep.nil)) ?_
  refine at_seq ?_
  refine at_region ?_
  refine wl_read rfl rfl rfl (yl_assign rfl rfl) ?_
  refine wl_nil ?_
  refine at_keep (Keep.cons 0 rfl (Keep.cons 2 rfl (Keep.cons 3 rfl Keep.nil))) ?_
  refine at_seq ?_
  refine at_seq ?_
  refine at_region ?_
  refine wl_read rfl rfl rfl (yl_assign rfl rfl) ?_
  refine wl_nil ?_
  refine at_keep (Keep.cons 0 rfl (Keep.cons 2 rfl (Keep.cons 3 rfl (Keep.cons 4 rfl Keep.nil)))) ?_
  refine at_block ?_
  refine at_keep (L' := (fun A1 c1 k => [(0, .slice A l.length c), (3, .slice A1 (cmps l k).length c1), (4, .int .i64 (k : Int))]) none 0 0) (Keep.consEq 0 rfl rfl (Keep.consEq 3 rfl rfl (Keep.consEq 4 rfl rfl Keep.nil))) ?_
  refine at_heap (fun _ hw => hw.nilSl (α := Running) 32) ?_
  refine at_loop3 (fun A1 c1 k => k ≤ l.length) (fun A1 c1 k => [(0, .slice A l.length c), (3, .slice A1 (cmps l k).length c1), (4, .int .i64 (k : Int))]) (fun A1 c1 k => Sl A1 c1 32 (cmps l k) :: H) (fun A1 c1 k => l.length - k) none 0 0 (by omega) ?_
  intro A1 c1 k hI ih
  have hcl := cmps_length l k
  refine at_seq ?_
  refine at_seq ?_
  refine at_region ?_
  refine wl_read rfl rfl rfl (yl_move rfl rfl) ?_
  refine wl_read rfl rfl rfl (yl_move rfl rfl) ?_
  refine wl_read rfl rfl rfl (yl_len rfl rfl Try.underlying25) ?_
  refine wl_split rfl rfl rfl (yp_lss rfl rfl rfl) ?_ ?_
  · intro h3_3
    refine wl_nil ?_
    refine at_keep (Keep.cons 0 rfl (Keep.cons 3 rfl (Keep.cons 4 rfl (Keep.cons 8 rfl Keep.nil)))) ?_
    refine at_true rfl ?_
    refine at_skip ?_
    refine at_seq ?_
    refine at_block ?_
    refine at_seq ?_
    have hk1 : k < l.length := by omega
    refine at_draw0 (.fl 0 (.fl 1 (.fl 2 (.fl 3 (.fl 4 (.fl 5 (.fl 6 (.fl 7 (.fl 8 (.fl 9 (.fl 10 (.fl 11 (.fl 12 (.fl 13 (.fl 14 (.fl 15 (.fl 16 (.fl 17 (.fl 18 (.fl 19 (.fl 20 (.fl 21 (.fl 22 (.fl 23 (.fl 24 (.fl 25 (.fl 26 (.fl 27 (.fl 28 (.fl 29 .nil)))))))))))))))))))))))))))))) (by kernel_rfl) (by kernel_rfl) ?_
    refine wt_read rfl rfl rfl rfl (yl_move rfl rfl) ?_
    refine wt_split rfl rfl rfl rfl (yp_eql rfl rfl rfl) ?_ ?_
    · intro h5_1
      refine wt_read rfl rfl rfl rfl (yl_move rfl rfl) ?_
      refine wt_skip rfl rfl rfl rfl ?_
      refine wt_skip rfl rfl rfl rfl ?_
      refine wt_skip rfl rfl rfl rfl ?_
      refine wt_skip rfl rfl rfl rfl ?_
      refine wt_skip rfl rfl rfl rfl ?_
      refine wt_skip rfl rfl rfl rfl ?_
      refine wt_skip rfl rfl rfl rfl ?_
      refine wt_skip rfl rfl rfl rfl ?_
      refine wt_skip rfl rfl rfl rfl ?_
      refine wt_skip rfl rfl rfl rfl ?_
      refine wt_skip rfl rfl rfl rfl ?_
      refine wt_skip rfl rfl rfl rfl ?_
      refine wt_read rfl rfl rfl rfl (yl_pickT rfl rfl rfl) ?_
      refine wt_read rfl rfl rfl rfl (yl_move rfl rfl) ?_
      refine wt_skip rfl rfl rfl rfl ?_
      refine wt_skip rfl rfl rfl rfl ?_
      refine wt_skip rfl rfl rfl rfl ?_
      refine wt_skip rfl rfl rfl rfl ?_
      refine wt_skip rfl rfl rfl rfl ?_
      refine wt_skip rfl rfl rfl rfl ?_
      refine wt_skip rfl rfl rfl rfl ?_
      refine wt_skip rfl rfl rfl rfl ?_
      refine wt_skip rfl rfl rfl rfl ?_
      refine wt_skip rfl rfl rfl rfl ?_
      refine wt_skip rfl rfl rfl rfl ?_
      refine wt_skip rfl rfl rfl rfl ?_
      refine wt_read rfl rfl rfl rfl (yl_pickT rfl rfl rfl) ?_
      refine wt_nil ?_
      refine at_keep (Keep.cons 0 rfl (Keep.cons 3 rfl (Keep.cons 4 rfl (Keep.cons 8 rfl (Keep.cons 40 rfl Keep.nil))))) ?_
      refine at_true rfl ?_
      have hch : chg l k := .inl (by omega)
      refine at_region ?_
      refine wl_read rfl rfl rfl (yl_move rfl rfl) ?_
      refine wl_read rfl rfl rfl (yl_move rfl rfl) ?_
      refine wl_read rfl rfl rfl (yl_move rfl rfl) ?_
      refine wl_read rfl rfl rfl (yl_index rfl rfl rfl (hR.cons _) (at_some hk1) rfl rfl Try.underlying25 (by kernel_rfl) rfl) ?_
      refine wl_read rfl rfl rfl (yl_loadRow rfl rfl (hR.cons _) (at_some hk1) Try.underlying32 rfl (by kernel_rfl) rfl) ?_
      refine wl_eff rfl rfl rfl (ef_buildSlice (e := 32) [at_ l k] rfl rfl (fun _ => by kernel_rfl) rfl rfl) ?_
      rintro _ _ ⟨T6_5, rfl, rfl⟩
      refine wl_eff rfl rfl rfl (ef_append (ys := [at_ l k]) 1 rfl rfl rfl rfl (Rd.of_sl 0 rfl) Try.underlying25 info32 rfl rfl (by simp only [List.length_singleton, maxLen]; omega) (by simp only [List.length_singleton]; omega)) ?_
      rintro _ _ ⟨A2, c2, rfl, hH⟩
      simp only [List.set_cons_succ, List.set_cons_zero] at hH; subst hH
      rw [← cmps_yes l k hch]
      refine wl_heap (fun _ hw => hw.tail) ?_
      refine wl_read rfl rfl rfl (yl_assign rfl rfl) ?_
      refine wl_nil ?_
      refine at_keep (Keep.cons 0 rfl (Keep.cons 3 rfl (Keep.cons 4 rfl (Keep.cons 8 rfl (Keep.cons 40 rfl Keep.nil))))) ?_
      refine at_inBlock ?_
      
      refine at_region ?_
      refine wl_read rfl rfl rfl (yl_move rfl rfl) ?_
      refine wl_read rfl rfl rfl (yl_add rfl rfl rfl (w64 (by omega) (by omega))) ?_
      refine wl_read rfl rfl rfl (yl_assign rfl rfl) ?_
      refine wl_nil ?_
      refine at_keep (Keep.cons 0 rfl (Keep.cons 3 rfl (Keep.cons 4 rfl (Keep.cons 8 rfl (Keep.cons 40 rfl Keep.nil))))) ?_
      exact at_keep (L' := (fun A1 c1 k => [(0, .slice A l.length c), (3, .slice A1 (cmps l k).length c1), (4, .int .i64 (k : Int))]) A2 c2 (k + 1)) (Keep.consEq 0 rfl rfl (Keep.consEq 3 rfl rfl (Keep.consEq 4 rfl rfl Keep.nil))) (ih A2 c2 (k + 1) (by omega) (by omega))
    · intro h5_1
      refine wt_read rfl rfl rfl rfl (yl_move rfl rfl) ?_
      refine wt_read rfl rfl rfl rfl (yl_move rfl rfl) ?_
      refine wt_read rfl rfl rfl rfl (yl_move rfl rfl) ?_
      refine wt_read rfl rfl rfl rfl (yl_index rfl rfl rfl (hR.cons _) (at_some hk1) rfl rfl Try.underlying25 (by kernel_rfl) rfl) ?_
      refine wt_read rfl rfl rfl rfl (yl_field rfl rfl Try.underlying32 rfl (by kernel_rfl) rfl) ?_
      refine wt_read rfl rfl rfl rfl (yl_load rfl rfl Try.underlying3 rfl ((hR.cons _).cell2 (at_some hk1) rfl)) ?_
      refine wt_read rfl rfl rfl rfl (yl_move rfl rfl) ?_
      refine wt_read rfl rfl rfl rfl (yl_move rfl rfl) ?_
      refine wt_read rfl rfl rfl rfl (yl_sub rfl rfl rfl (w64 (by omega) (by omega))) ?_
      refine wt_read rfl rfl rfl rfl (yl_index rfl rfl rfl (hR.cons _) (at_some (show k - 1 < l.length by omega)) (by omega) rfl Try.underlying25 (by kernel_rfl) rfl) ?_
      refine wt_read rfl rfl rfl rfl (yl_field rfl rfl Try.underlying32 rfl (by kernel_rfl) rfl) ?_
      refine wt_read rfl rfl rfl rfl (yl_load rfl rfl Try.underlying3 rfl ((hR.cons _).cell2 (at_some (show k - 1 < l.length by omega)) rfl)) ?_
      refine wt_split rfl rfl rfl rfl (yp_neq rfl rfl rfl) ?_ ?_
      · intro h5_14
        refine wt_read rfl rfl rfl rfl (yl_pickF rfl rfl rfl) ?_
        refine wt_read rfl rfl rfl rfl (yl_move rfl rfl) ?_
        refine wt_skip rfl rfl rfl rfl ?_
        refine wt_skip rfl rfl rfl rfl ?_
        refine wt_skip rfl rfl rfl rfl ?_
        refine wt_skip rfl rfl rfl rfl ?_
        refine wt_skip rfl rfl rfl rfl ?_
        refine wt_skip rfl rfl rfl rfl ?_
        refine wt_skip rfl rfl rfl rfl ?_
        refine wt_skip rfl rfl rfl rfl ?_
        refine wt_skip rfl rfl rfl rfl ?_
        refine wt_skip rfl rfl rfl rfl ?_
        refine wt_skip rfl rfl rfl rfl ?_
        refine wt_skip rfl rfl rfl rfl ?_
        refine wt_read rfl rfl rfl rfl (yl_pickT rfl rfl rfl) ?_
        refine wt_nil ?_
        refine at_keep (Keep.cons 0 rfl (Keep.cons 3 rfl (Keep.cons 4 rfl (Keep.cons 8 rfl (Keep.cons 40 rfl Keep.nil))))) ?_
        refine at_true rfl ?_
        have hch : chg l k := .inr (.inl h5_14)
        refine at_region ?_
        refine wl_read rfl rfl rfl (yl_move rfl rfl) ?_
        refine wl_read rfl rfl rfl (yl_move rfl rfl) ?_
        refine wl_read rfl rfl rfl (yl_move rfl rfl) ?_
        refine wl_read rfl rfl rfl (yl_index rfl rfl rfl (hR.cons _) (at_some hk1) rfl rfl Try.underlying25 (by kernel_rfl) rfl) ?_
        refine wl_read rfl rfl rfl (yl_loadRow rfl rfl (hR.cons _) (at_some hk1) Try.underlying32 rfl (by kernel_rfl) rfl) ?_
        refine wl_eff rfl rfl rfl (ef_buildSlice (e := 32) [at_ l k] rfl rfl (fun _ => by kernel_rfl) rfl rfl) ?_
        rintro _ _ ⟨T6_5, rfl, rfl⟩
        refine wl_eff rfl rfl rfl (ef_append (ys := [at_ l k]) 1 rfl rfl rfl rfl (Rd.of_sl 0 rfl) Try.underlying25 info32 rfl rfl (by simp only [List.length_singleton, maxLen]; omega) (by simp only [List.length_singleton]; omega)) ?_
        rintro _ _ ⟨A2, c2, rfl, hH⟩
        simp only [List.set_cons_succ, List.set_cons_zero] at hH; subst hH
        rw [← cmps_yes l k hch]
        refine wl_heap (fun _ hw => hw.tail) ?_
        refine wl_read rfl rfl rfl (yl_assign rfl rfl) ?_
        refine wl_nil ?_
        refine at_keep (Keep.cons 0 rfl (Keep.cons 3 rfl (Keep.cons 4 rfl (Keep.cons 8 rfl (Keep.cons 40 rfl Keep.nil))))) ?_
        refine at_inBlock ?_
        
        refine at_region ?_
        refine wl_read rfl rfl rfl (yl_move rfl rfl) ?_
        refine wl_read rfl rfl rfl (yl_add rfl rfl rfl (w64 (by omega) (by omega))) ?_
        refine wl_read rfl rfl rfl (yl_assign rfl rfl) ?_
        refine wl_nil ?_
        refine at_keep (Keep.cons 0 rfl (Keep.cons 3 rfl (Keep.cons 4 rfl (Keep.cons 8 rfl (Keep.cons 40 rfl Keep.nil))))) ?_
        exact at_keep (L' := (fun A1 c1 k => [(0, .slice A l.length c), (3, .slice A1 (cmps l k).length c1), (4, .int .i64 (k : Int))]) A2 c2 (k + 1)) (Keep.consEq 0 rfl rfl (Keep.consEq 3 rfl rfl (Keep.consEq 4 rfl rfl Keep.nil))) (ih A2 c2 (k + 1) (by omega) (by omega))
      · intro h5_14
        refine wt_read rfl rfl rfl rfl (yl_pickF rfl rfl rfl) ?_
        refine wt_read rfl rfl rfl rfl (yl_move rfl rfl) ?_
        refine wt_read rfl rfl rfl rfl (yl_move rfl rfl) ?_
        refine wt_read rfl rfl rfl rfl (yl_move rfl rfl) ?_
        refine wt_read rfl rfl rfl rfl (yl_index rfl rfl rfl (hR.cons _) (at_some hk1) rfl rfl Try.underlying25 (by kernel_rfl) rfl) ?_
        refine wt_read rfl rfl rfl rfl (yl_field rfl rfl Try.underlying32 rfl (by kernel_rfl) rfl) ?_
        refine wt_read rfl rfl rfl rfl (yl_load rfl rfl Try.underlying4 rfl ((hR.cons _).cell2 (at_some hk1) rfl)) ?_
        refine wt_read rfl rfl rfl rfl (yl_move rfl rfl) ?_
        refine wt_read rfl rfl rfl rfl (yl_move rfl rfl) ?_
        refine wt_read rfl rfl rfl rfl (yl_sub rfl rfl rfl (w64 (by omega) (by omega))) ?_
        refine wt_read rfl rfl rfl rfl (yl_index rfl rfl rfl (hR.cons _) (at_some (show k - 1 < l.length by omega)) (by omega) rfl Try.underlying25 (by kernel_rfl) rfl) ?_
        refine wt_read rfl rfl rfl rfl (yl_field rfl rfl Try.underlying32 rfl (by kernel_rfl) rfl) ?_
        refine wt_read rfl rfl rfl rfl (yl_load rfl rfl Try.underlying4 rfl ((hR.cons _).cell2 (at_some (show k - 1 < l.length by omega)) rfl)) ?_
        refine wt_split rfl rfl rfl rfl (yp_neb rfl rfl rfl Try.underlying4) ?_ ?_
        · intro h5_28
          refine wt_read rfl rfl rfl rfl (yl_pickF rfl rfl rfl) ?_
          refine wt_nil ?_
          refine at_keep (Keep.cons 0 rfl (Keep.cons 3 rfl (Keep.cons 4 rfl (Keep.cons 8 rfl (Keep.cons 40 rfl Keep.nil))))) ?_
          refine at_true rfl ?_
          have hch : chg l k := .inr (.inr h5_28)
          refine at_region ?_
          refine wl_read rfl rfl rfl (yl_move rfl rfl) ?_
          refine wl_read rfl rfl rfl (yl_move rfl rfl) ?_
          refine wl_read rfl rfl rfl (yl_move rfl rfl) ?_
          refine wl_read rfl rfl rfl (yl_index rfl rfl rfl (hR.cons _) (at_some hk1) rfl rfl Try.underlying25 (by kernel_rfl) rfl) ?_
          refine wl_read rfl rfl rfl (yl_loadRow rfl rfl (hR.cons _) (at_some hk1) Try.underlying32 rfl (by kernel_rfl) rfl) ?_
          refine wl_eff rfl rfl rfl (ef_buildSlice (e := 32) [at_ l k] rfl rfl (fun _ => by kernel_rfl) rfl rfl) ?_
          rintro _ _ ⟨T6_5, rfl, rfl⟩
          refine wl_eff rfl rfl rfl (ef_append (ys := [at_ l k]) 1 rfl rfl rfl rfl (Rd.of_sl 0 rfl) Try.underlying25 info32 rfl rfl (by simp only [List.length_singleton, maxLen]; omega) (by simp only [List.length_singleton]; omega)) ?_
          rintro _ _ ⟨A2, c2, rfl, hH⟩
          simp only [List.set_cons_succ, List.set_cons_zero] at hH; subst hH
          rw [← cmps_yes l k hch]
          refine wl_heap (fun _ hw => hw.tail) ?_
          refine wl_read rfl rfl rfl (yl_assign rfl rfl) ?_
          refine wl_nil ?_
          refine at_keep (Keep.cons 0 rfl (Keep.cons 3 rfl (Keep.cons 4 rfl (Keep.cons 8 rfl (Keep.cons 40 rfl Keep.nil))))) ?_
          refine at_inBlock ?_
          
          refine at_region ?_
          refine wl_read rfl rfl rfl (yl_move rfl rfl) ?_
          refine wl_read rfl rfl rfl (yl_add rfl rfl rfl (w64 (by omega) (by omega))) ?_
          refine wl_read rfl rfl rfl (yl_assign rfl rfl) ?_
          refine wl_nil ?_
          refine at_keep (Keep.cons 0 rfl (Keep.cons 3 rfl (Keep.cons 4 rfl (Keep.cons 8 rfl (Keep.cons 40 rfl Keep.nil))))) ?_
          exact at_keep (L' := (fun A1 c1 k => [(0, .slice A l.length c), (3, .slice A1 (cmps l k).length c1), (4, .int .i64 (k : Int))]) A2 c2 (k + 1)) (Keep.consEq 0 rfl rfl (Keep.consEq 3 rfl rfl (Keep.consEq 4 rfl rfl Keep.nil))) (ih A2 c2 (k + 1) (by omega) (by omega))
        · intro h5_28
          refine wt_read rfl rfl rfl rfl (yl_pickF rfl rfl rfl) ?_
          refine wt_nil ?_
          refine at_keep (Keep.cons 0 rfl (Keep.cons 3 rfl (Keep.cons 4 rfl (Keep.cons 8 rfl (Keep.cons 40 rfl Keep.nil))))) ?_
          refine at_false rfl ?_
          refine at_skip ?_
          refine at_inBlock ?_
          have hch : ¬ chg l k := by
            unfold chg
            rintro (h | h | h)
            · omega
            · exact h5_14 h
            · exact h5_28 h
          rw [← cmps_no l k hch]
          refine at_region ?_
          refine wl_read rfl rfl rfl (yl_move rfl rfl) ?_
          refine wl_read rfl rfl rfl (yl_add rfl rfl rfl (w64 (by omega) (by omega))) ?_
          refine wl_read rfl rfl rfl (yl_assign rfl rfl) ?_
          refine wl_nil ?_
          refine at_keep (Keep.cons 0 rfl (Keep.cons 3 rfl (Keep.cons 4 rfl (Keep.cons 8 rfl (Keep.cons 40 rfl Keep.nil))))) ?_
          exact at_keep (L' := (fun A1 c1 k => [(0, .slice A l.length c), (3, .slice A1 (cmps l k).length c1), (4, .int .i64 (k : Int))]) A1 c1 (k + 1)) (Keep.consEq 0 rfl rfl (Keep.consEq 3 rfl rfl (Keep.consEq 4 rfl rfl Keep.nil))) (ih A1 c1 (k + 1) (by omega) (by omega))
  · intro h3_3
    refine wl_nil ?_
    refine at_keep (Keep.cons 0 rfl (Keep.cons 3 rfl (Keep.cons 4 rfl (Keep.cons 8 rfl Keep.nil)))) ?_
    refine at_false rfl ?_
    refine at_exit rfl ?_
    refine at_seq ?_
    refine at_region ?_
    refine wl_read rfl rfl rfl (yl_move rfl rfl) ?_
    refine wl_read rfl rfl rfl (yl_assign rfl rfl) ?_
    refine wl_nil ?_
    refine at_keep (Keep.cons 0 rfl (Keep.cons 2 rfl (Keep.cons 3 rfl (Keep.cons 4 rfl (Keep.cons 8 rfl Keep.nil))))) ?_
    refine at_ret Try.func23 (res1 rfl rfl) ?_
    have e : k = l.length := by omega
    exact ⟨A1, c1, by unfold compress; rw [← e], by unfold compress; rw [← e]⟩
theorem at_fn (l : List Running) (A : Option Addr) (c : Nat) (month : Int) (b : World) (H : List Asr) (hR : Rd H A l) (hl : l.length ≤ 140737488355328) :
    Fn Try.prog 20 [.slice A l.length c, .int .i64 month] b H (fun v H' => v = .tuple #[.agg (Enc.cells (atR l month)).toArray, .bool (decide (0 ≤ bestOf l month))] ∧ H = H') := by
  refine fn_of_at (by kernel_rfl) Try.func20 rfl Try.ntmps20 rfl rfl ?_
  refine at_seq ?_
  refine at_region ?_
  refine wl_eff rfl rfl rfl (ef_alloc (cs := [.int .i64 0, .int .i64 0, .bool false]) (z := .agg #[.int .i64 0, .int .i64 0, .bool false]) rfl (by kernel_rfl) rfl) ?_
  rintro _ _ ⟨g0_0, rfl, rfl⟩
  refine wl_read rfl rfl rfl (yl_assign rfl rfl) ?_
  refine wl_nil ?_
  refine at_keep (Keep.cons 0 rfl (Keep.cons 1 rfl (Keep.cons 4 rfl (Keep.cons 5 rfl Keep.nil)))) ?_
  refine at_seq ?_
  refine at_region ?_
  refine wl_read rfl rfl rfl (yl_assign rfl rfl) ?_
  refine wl_nil ?_
  refine at_keep (Keep.cons 0 rfl (Keep.cons 1 rfl (Keep.cons 4 rfl (Keep.cons 5 rfl (Keep.cons 6 rfl Keep.nil))))) ?_
  refine at_seq ?_
  refine at_seq ?_
  refine at_region ?_
  refine wl_read rfl rfl rfl (yl_move rfl rfl) ?_
  refine wl_read rfl rfl rfl (yl_len rfl rfl Try.underlying25) ?_
  refine wl_read rfl rfl rfl (yl_move rfl rfl) ?_
  refine wl_nil ?_
  refine at_keep (Keep.cons 0 rfl (Keep.cons 1 rfl (Keep.cons 4 rfl (Keep.cons 5 rfl (Keep.cons 6 rfl (Keep.cons 9 rfl (Keep.cons 10 rfl (Keep.cons 11 rfl Keep.nil)))))))) ?_
  refine at_block ?_
  refine at_keep (L' := (fun k => [(0, .slice A l.length c), (1, .int .i64 month), (4, .pointer (some ⟨g0_0, 0, none⟩)), (5, .bool false), (6, .int .i64 (best l month k)), (9, .slice A l.length c), (10, .int .i64 (l.length : Int)), (11, .int .i64 (k : Int))]) 0) (Keep.consEq 0 rfl rfl (Keep.consEq 1 rfl rfl (Keep.consEq 4 rfl rfl (Keep.consEq 5 rfl rfl (Keep.consEq 6 rfl rfl (Keep.consEq 9 rfl rfl (Keep.consEq 10 rfl rfl (Keep.consEq 11 rfl rfl Keep.nil)))))))) ?_
  refine at_loop1 (fun k => k ≤ l.length) (fun k => [(0, .slice A l.length c), (1, .int .i64 month), (4, .pointer (some ⟨g0_0, 0, none⟩)), (5, .bool false), (6, .int .i64 (best l month k)), (9, .slice A l.length c), (10, .int .i64 (l.length : Int)), (11, .int .i64 (k : Int))]) (fun k => Bk g0_0 32 [.int .i64 0, .int .i64 0, .bool false] :: H) (fun k => l.length - k) 0 (by omega) ?_
  intro k hI ih
  have hb := best_bd l month k
  refine at_seq ?_
  refine at_region ?_
  refine wl_split rfl rfl rfl (yp_lss rfl rfl rfl) ?_ ?_
  · intro h3_0
    refine wl_nil ?_
    refine at_keep (Keep.cons 0 rfl (Keep.cons 1 rfl (Keep.cons 4 rfl (Keep.cons 5 rfl (Keep.cons 6 rfl (Keep.cons 9 rfl (Keep.cons 10 rfl (Keep.cons 11 rfl (Keep.cons 12 rfl Keep.nil))))))))) ?_
    refine at_seq ?_
    refine at_true rfl ?_
    refine at_skip ?_
    refine at_seq ?_
    refine at_block ?_
    refine at_seq ?_
    have hk1 : k < l.length := by omega
    refine at_region ?_
    refine wl_read rfl rfl rfl (yl_move rfl rfl) ?_
    refine wl_read rfl rfl rfl (yl_index rfl rfl rfl (hR.cons _) (at_some hk1) rfl rfl Try.underlying25 (by kernel_rfl) rfl) ?_
    refine wl_read rfl rfl rfl (yl_loadRow rfl rfl (hR.cons _) (at_some hk1) Try.underlying32 rfl (by kernel_rfl) rfl) ?_
    refine wl_eff rfl rfl rfl (ef_alloc (cs := [.int .i64 0, .int .i64 0, .bool false]) (z := .agg #[.int .i64 0, .int .i64 0, .bool false]) rfl (by kernel_rfl) rfl) ?_
    rintro _ _ ⟨g4_3, rfl, rfl⟩
    refine wl_read rfl rfl rfl (yl_assign rfl rfl) ?_
    refine wl_store rfl rfl (es_at0 (es_storeN 0 rfl rfl rfl rfl (by kernel_rfl) rfl rfl)) ?_
    refine wl_nil ?_
    refine at_keep (Keep.cons 0 rfl (Keep.cons 1 rfl (Keep.cons 4 rfl (Keep.cons 5 rfl (Keep.cons 6 rfl (Keep.cons 7 rfl (Keep.cons 8 rfl (Keep.cons 9 rfl (Keep.cons 10 rfl (Keep.cons 11 rfl (Keep.cons 12 rfl Keep.nil))))))))))) ?_
    refine at_seq ?_
    refine at_draw0 (.fl 0 (.fl 1 (.fl 2 (.fl 3 (.fl 4 (.fl 5 (.fl 6 (.fl 7 (.fl 8 (.fl 9 (.fl 10 (.fl 11 (.fl 12 (.fl 13 (.fl 14 (.fl 15 (.fl 16 (.fl 17 .nil)))))))))))))))))) (by kernel_rfl) (by kernel_rfl) ?_
    refine wt_read rfl rfl rfl rfl (yl_fieldB rfl rfl Try.underlying32 rfl (by kernel_rfl) rfl) ?_
    refine wt_read rfl rfl rfl rfl (yl_load rfl rfl Try.underlying3 rfl (CellAt.bk 0 rfl rfl)) ?_
    refine wt_read rfl rfl rfl rfl (yl_move rfl rfl) ?_
    refine wt_split rfl rfl rfl rfl (yp_leq rfl rfl rfl) ?_ ?_
    · intro h5_3
      refine wt_read rfl rfl rfl rfl (yl_move rfl rfl) ?_
      refine wt_read rfl rfl rfl rfl (yl_move rfl rfl) ?_
      refine wt_split rfl rfl rfl rfl (yp_lss rfl rfl rfl) ?_ ?_
      · intro h5_6
        refine wt_read rfl rfl rfl rfl (yl_move rfl rfl) ?_
        refine wt_skip rfl rfl rfl rfl ?_
        refine wt_skip rfl rfl rfl rfl ?_
        refine wt_skip rfl rfl rfl rfl ?_
        refine wt_skip rfl rfl rfl rfl ?_
        refine wt_skip rfl rfl rfl rfl ?_
        refine wt_skip rfl rfl rfl rfl ?_
        refine wt_skip rfl rfl rfl rfl ?_
        refine wt_skip rfl rfl rfl rfl ?_
        refine wt_read rfl rfl rfl rfl (yl_pickT rfl rfl rfl) ?_
        refine wt_read rfl rfl rfl rfl (yl_pickT rfl rfl rfl) ?_
        refine wt_nil ?_
        refine at_keep (Keep.cons 0 rfl (Keep.cons 1 rfl (Keep.cons 4 rfl (Keep.cons 5 rfl (Keep.cons 6 rfl (Keep.cons 7 rfl (Keep.cons 8 rfl (Keep.cons 9 rfl (Keep.cons 10 rfl (Keep.cons 11 rfl (Keep.cons 12 rfl (Keep.cons 33 rfl Keep.nil)))))))))))) ?_
        refine at_true rfl ?_
        
        refine at_region ?_
        refine wl_read rfl rfl rfl (yl_move rfl rfl) ?_
        refine wl_read rfl rfl rfl (yl_assign rfl rfl) ?_
        refine wl_nil ?_
        refine at_keep (Keep.cons 0 rfl (Keep.cons 1 rfl (Keep.cons 4 rfl (Keep.cons 5 rfl (Keep.cons 6 rfl (Keep.cons 7 rfl (Keep.cons 8 rfl (Keep.cons 9 rfl (Keep.cons 10 rfl (Keep.cons 11 rfl (Keep.cons 12 rfl (Keep.cons 33 rfl Keep.nil)))))))))))) ?_
        refine at_inBlock ?_
        refine at_heap (fun _ hw => hw.tail) ?_
        have hbs : best l month (k + 1) = (k : Int) := by simp only [best]; rw [if_pos (by unfold better; omega)]
        refine at_region ?_
        refine wl_read rfl rfl rfl (yl_add rfl rfl rfl (w64 (by omega) (by omega))) ?_
        refine wl_read rfl rfl rfl (yl_move rfl rfl) ?_
        refine wl_nil ?_
        refine at_keep (Keep.cons 0 rfl (Keep.cons 1 rfl (Keep.cons 4 rfl (Keep.cons 5 rfl (Keep.cons 6 rfl (Keep.cons 7 rfl (Keep.cons 8 rfl (Keep.cons 9 rfl (Keep.cons 10 rfl (Keep.cons 11 rfl (Keep.cons 12 rfl (Keep.cons 33 rfl Keep.nil)))))))))))) ?_
        exact at_keep (L' := (fun k => [(0, .slice A l.length c), (1, .int .i64 month), (4, .pointer (some ⟨g0_0, 0, none⟩)), (5, .bool false), (6, .int .i64 (best l month k)), (9, .slice A l.length c), (10, .int .i64 (l.length : Int)), (11, .int .i64 (k : Int))]) (k + 1)) (Keep.consEq 0 rfl rfl (Keep.consEq 1 rfl rfl (Keep.consEq 4 rfl rfl (Keep.consEq 5 rfl rfl (Keep.consEq 6 rfl (by rw [hbs]) (Keep.consEq 9 rfl rfl (Keep.consEq 10 rfl rfl (Keep.consEq 11 rfl rfl Keep.nil)))))))) (ih (k + 1) (by omega) (by omega))
      · intro h5_6
        refine wt_read rfl rfl rfl rfl (yl_move rfl rfl) ?_
        refine wt_read rfl rfl rfl rfl (yl_fieldB rfl rfl Try.underlying32 rfl (by kernel_rfl) rfl) ?_
        refine wt_read rfl rfl rfl rfl (yl_load rfl rfl Try.underlying3 rfl (CellAt.bk 0 rfl rfl)) ?_
        refine wt_read rfl rfl rfl rfl (yl_move rfl rfl) ?_
        refine wt_read rfl rfl rfl rfl (yl_move rfl rfl) ?_
        refine wt_read rfl rfl rfl rfl (yl_index rfl rfl rfl ((hR.cons _).cons _) (at_some (show (best l month k).toNat < l.length by omega)) (by omega) rfl Try.underlying25 (by kernel_rfl) rfl) ?_
        refine wt_read rfl rfl rfl rfl (yl_field rfl rfl Try.underlying32 rfl (by kernel_rfl) rfl) ?_
        refine wt_read rfl rfl rfl rfl (yl_load rfl rfl Try.underlying3 rfl (((hR.cons _).cons _).cell2 (at_some (show (best l month k).toNat < l.length by omega)) rfl)) ?_
        refine wt_split rfl rfl rfl rfl (yp_gtr rfl rfl rfl) ?_ ?_
        · intro h5_15
          refine wt_read rfl rfl rfl rfl (yl_pickF rfl rfl rfl) ?_
          refine wt_read rfl rfl rfl rfl (yl_pickT rfl rfl rfl) ?_
          refine wt_nil ?_
          refine at_keep (Keep.cons 0 rfl (Keep.cons 1 rfl (Keep.cons 4 rfl (Keep.cons 5 rfl (Keep.cons 6 rfl (Keep.cons 7 rfl (Keep.cons 8 rfl (Keep.cons 9 rfl (Keep.cons 10 rfl (Keep.cons 11 rfl (Keep.cons 12 rfl (Keep.cons 33 rfl Keep.nil)))))))))))) ?_
          refine at_true rfl ?_
          
          refine at_region ?_
          refine wl_read rfl rfl rfl (yl_move rfl rfl) ?_
          refine wl_read rfl rfl rfl (yl_assign rfl rfl) ?_
          refine wl_nil ?_
          refine at_keep (Keep.cons 0 rfl (Keep.cons 1 rfl (Keep.cons 4 rfl (Keep.cons 5 rfl (Keep.cons 6 rfl (Keep.cons 7 rfl (Keep.cons 8 rfl (Keep.cons 9 rfl (Keep.cons 10 rfl (Keep.cons 11 rfl (Keep.cons 12 rfl (Keep.cons 33 rfl Keep.nil)))))))))))) ?_
          refine at_inBlock ?_
          refine at_heap (fun _ hw => hw.tail) ?_
          have hbs : best l month (k + 1) = (k : Int) := by simp only [best]; rw [if_pos (by unfold better; omega)]
          refine at_region ?_
          refine wl_read rfl rfl rfl (yl_add rfl rfl rfl (w64 (by omega) (by omega))) ?_
          refine wl_read rfl rfl rfl (yl_move rfl rfl) ?_
          refine wl_nil ?_
          refine at_keep (Keep.cons 0 rfl (Keep.cons 1 rfl (Keep.cons 4 rfl (Keep.cons 5 rfl (Keep.cons 6 rfl (Keep.cons 7 rfl (Keep.cons 8 rfl (Keep.cons 9 rfl (Keep.cons 10 rfl (Keep.cons 11 rfl (Keep.cons 12 rfl (Keep.cons 33 rfl Keep.nil)))))))))))) ?_
          exact at_keep (L' := (fun k => [(0, .slice A l.length c), (1, .int .i64 month), (4, .pointer (some ⟨g0_0, 0, none⟩)), (5, .bool false), (6, .int .i64 (best l month k)), (9, .slice A l.length c), (10, .int .i64 (l.length : Int)), (11, .int .i64 (k : Int))]) (k + 1)) (Keep.consEq 0 rfl rfl (Keep.consEq 1 rfl rfl (Keep.consEq 4 rfl rfl (Keep.consEq 5 rfl rfl (Keep.consEq 6 rfl (by rw [hbs]) (Keep.consEq 9 rfl rfl (Keep.consEq 10 rfl rfl (Keep.consEq 11 rfl rfl Keep.nil)))))))) (ih (k + 1) (by omega) (by omega))
        · intro h5_15
          refine wt_read rfl rfl rfl rfl (yl_pickF rfl rfl rfl) ?_
          refine wt_read rfl rfl rfl rfl (yl_pickT rfl rfl rfl) ?_
          refine wt_nil ?_
          refine at_keep (Keep.cons 0 rfl (Keep.cons 1 rfl (Keep.cons 4 rfl (Keep.cons 5 rfl (Keep.cons 6 rfl (Keep.cons 7 rfl (Keep.cons 8 rfl (Keep.cons 9 rfl (Keep.cons 10 rfl (Keep.cons 11 rfl (Keep.cons 12 rfl (Keep.cons 33 rfl Keep.nil)))))))))))) ?_
          refine at_false rfl ?_
          refine at_skip ?_
          refine at_inBlock ?_
          refine at_heap (fun _ hw => hw.tail) ?_
          have hbs : best l month (k + 1) = best l month k := by simp only [best]; rw [if_neg (by unfold better; omega)]
          refine at_region ?_
          refine wl_read rfl rfl rfl (yl_add rfl rfl rfl (w64 (by omega) (by omega))) ?_
          refine wl_read rfl rfl rfl (yl_move rfl rfl) ?_
          refine wl_nil ?_
          refine at_keep (Keep.cons 0 rfl (Keep.cons 1 rfl (Keep.cons 4 rfl (Keep.cons 5 rfl (Keep.cons 6 rfl (Keep.cons 7 rfl (Keep.cons 8 rfl (Keep.cons 9 rfl (Keep.cons 10 rfl (Keep.cons 11 rfl (Keep.cons 12 rfl (Keep.cons 33 rfl Keep.nil)))))))))))) ?_
          exact at_keep (L' := (fun k => [(0, .slice A l.length c), (1, .int .i64 month), (4, .pointer (some ⟨g0_0, 0, none⟩)), (5, .bool false), (6, .int .i64 (best l month k)), (9, .slice A l.length c), (10, .int .i64 (l.length : Int)), (11, .int .i64 (k : Int))]) (k + 1)) (Keep.consEq 0 rfl rfl (Keep.consEq 1 rfl rfl (Keep.consEq 4 rfl rfl (Keep.consEq 5 rfl rfl (Keep.consEq 6 rfl (by rw [hbs]) (Keep.consEq 9 rfl rfl (Keep.consEq 10 rfl rfl (Keep.consEq 11 rfl rfl Keep.nil)))))))) (ih (k + 1) (by omega) (by omega))
    · intro h5_3
      refine wt_read rfl rfl rfl rfl (yl_move rfl rfl) ?_
      refine wt_skip rfl rfl rfl rfl ?_
      refine wt_skip rfl rfl rfl rfl ?_
      refine wt_skip rfl rfl rfl rfl ?_
      refine wt_skip rfl rfl rfl rfl ?_
      refine wt_skip rfl rfl rfl rfl ?_
      refine wt_skip rfl rfl rfl rfl ?_
      refine wt_skip rfl rfl rfl rfl ?_
      refine wt_skip rfl rfl rfl rfl ?_
      refine wt_skip rfl rfl rfl rfl ?_
      refine wt_skip rfl rfl rfl rfl ?_
      refine wt_skip rfl rfl rfl rfl ?_
      refine wt_skip rfl rfl rfl rfl ?_
      refine wt_read rfl rfl rfl rfl (yl_pickF rfl rfl rfl) ?_
      refine wt_nil ?_
      refine at_keep (Keep.cons 0 rfl (Keep.cons 1 rfl (Keep.cons 4 rfl (Keep.cons 5 rfl (Keep.cons 6 rfl (Keep.cons 7 rfl (Keep.cons 8 rfl (Keep.cons 9 rfl (Keep.cons 10 rfl (Keep.cons 11 rfl (Keep.cons 12 rfl (Keep.cons 33 rfl Keep.nil)))))))))))) ?_
      refine at_false rfl ?_
      refine at_skip ?_
      refine at_inBlock ?_
      refine at_heap (fun _ hw => hw.tail) ?_
      have hbs : best l month (k + 1) = best l month k := by simp only [best]; rw [if_neg (by unfold better; omega)]
      refine at_region ?_
      refine wl_read rfl rfl rfl (yl_add rfl rfl rfl (w64 (by omega) (by omega))) ?_
      refine wl_read rfl rfl rfl (yl_move rfl rfl) ?_
      refine wl_nil ?_
      refine at_keep (Keep.cons 0 rfl (Keep.cons 1 rfl (Keep.cons 4 rfl (Keep.cons 5 rfl (Keep.cons 6 rfl (Keep.cons 7 rfl (Keep.cons 8 rfl (Keep.cons 9 rfl (Keep.cons 10 rfl (Keep.cons 11 rfl (Keep.cons 12 rfl (Keep.cons 33 rfl Keep.nil)))))))))))) ?_
      exact at_keep (L' := (fun k => [(0, .slice A l.length c), (1, .int .i64 month), (4, .pointer (some ⟨g0_0, 0, none⟩)), (5, .bool false), (6, .int .i64 (best l month k)), (9, .slice A l.length c), (10, .int .i64 (l.length : Int)), (11, .int .i64 (k : Int))]) (k + 1)) (Keep.consEq 0 rfl rfl (Keep.consEq 1 rfl rfl (Keep.consEq 4 rfl rfl (Keep.consEq 5 rfl rfl (Keep.consEq 6 rfl (by rw [hbs]) (Keep.consEq 9 rfl rfl (Keep.consEq 10 rfl rfl (Keep.consEq 11 rfl rfl Keep.nil)))))))) (ih (k + 1) (by omega) (by omega))
  · intro h3_0
    refine wl_nil ?_
    refine at_keep (Keep.cons 0 rfl (Keep.cons 1 rfl (Keep.cons 4 rfl (Keep.cons 5 rfl (Keep.cons 6 rfl (Keep.cons 9 rfl (Keep.cons 10 rfl (Keep.cons 11 rfl (Keep.cons 12 rfl Keep.nil))))))))) ?_
    refine at_seq ?_
    refine at_false rfl ?_
    refine at_exit rfl ?_
    refine at_seq ?_
    refine at_seq ?_
    obtain rfl : k = l.length := by omega
    refine at_region ?_
    refine wl_read rfl rfl rfl (yl_move rfl rfl) ?_
    refine wl_split rfl rfl rfl (yp_lss rfl rfl rfl) ?_ ?_
    · intro h8_1
      refine wl_nil ?_
      refine at_keep (Keep.cons 0 rfl (Keep.cons 1 rfl (Keep.cons 4 rfl (Keep.cons 5 rfl (Keep.cons 6 rfl (Keep.cons 9 rfl (Keep.cons 10 rfl (Keep.cons 11 rfl (Keep.cons 12 rfl (Keep.cons 37 rfl Keep.nil)))))))))) ?_
      refine at_true rfl ?_
      refine at_seq ?_
      refine at_region ?_
      refine wl_read rfl rfl rfl (yl_build (cs := Enc.cells (⟨0, 0, false⟩ : Running)) rfl rfl (fun _ => by kernel_rfl)) ?_
      refine wl_store rfl rfl (es_at0 (es_storeN 0 rfl rfl rfl rfl (by kernel_rfl) rfl rfl)) ?_
      refine wl_read rfl rfl rfl (yl_assign rfl rfl) ?_
      refine wl_nil ?_
      refine at_keep (Keep.cons 0 rfl (Keep.cons 1 rfl (Keep.cons 4 rfl (Keep.cons 5 rfl (Keep.cons 6 rfl (Keep.cons 9 rfl (Keep.cons 10 rfl (Keep.cons 11 rfl (Keep.cons 12 rfl (Keep.cons 37 rfl Keep.nil)))))))))) ?_
      refine at_retH (fun _ hw => hw.tail) Try.func20 (resC1 0 rfl rfl rfl Try.underlying32 rfl (by kernel_rfl) rfl) ?_
      have e1 : atR l month = ⟨0, 0, false⟩ := by unfold atR bestOf; rw [if_pos h8_1]
      have e2 : decide (0 ≤ bestOf l month) = false := decide_eq_false (by unfold bestOf; omega)
      rw [e1, e2]
      exact ⟨rfl, rfl⟩
    · intro h8_1
      refine wl_nil ?_
      refine at_keep (Keep.cons 0 rfl (Keep.cons 1 rfl (Keep.cons 4 rfl (Keep.cons 5 rfl (Keep.cons 6 rfl (Keep.cons 9 rfl (Keep.cons 10 rfl (Keep.cons 11 rfl (Keep.cons 12 rfl (Keep.cons 37 rfl Keep.nil)))))))))) ?_
      refine at_false rfl ?_
      refine at_skip ?_
      refine at_seq ?_
      refine at_region ?_
      refine wl_read rfl rfl rfl (yl_move rfl rfl) ?_
      refine wl_read rfl rfl rfl (yl_move rfl rfl) ?_
      refine wl_read rfl rfl rfl (yl_index rfl rfl rfl (hR.cons _) (at_some (show (best l month l.length).toNat < l.length by omega)) (by omega) rfl Try.underlying25 (by kernel_rfl) rfl) ?_
      refine wl_read rfl rfl rfl (yl_loadRow rfl rfl (hR.cons _) (at_some (show (best l month l.length).toNat < l.length by omega)) Try.underlying32 rfl (by kernel_rfl) rfl) ?_
      refine wl_store rfl rfl (es_at0 (es_storeN 0 rfl rfl rfl rfl (by kernel_rfl) rfl rfl)) ?_
      refine wl_read rfl rfl rfl (yl_assign rfl rfl) ?_
      refine wl_nil ?_
      refine at_keep (Keep.cons 0 rfl (Keep.cons 1 rfl (Keep.cons 4 rfl (Keep.cons 5 rfl (Keep.cons 6 rfl (Keep.cons 9 rfl (Keep.cons 10 rfl (Keep.cons 11 rfl (Keep.cons 12 rfl (Keep.cons 37 rfl Keep.nil)))))))))) ?_
      refine at_retH (fun _ hw => hw.tail) Try.func20 (resC1 0 rfl rfl rfl Try.underlying32 rfl (by kernel_rfl) rfl) ?_
      have e1 : atR l month = at_ l (best l month l.length).toNat := by unfold atR bestOf; rw [if_neg h8_1]
      have e2 : decide (0 ≤ bestOf l month) = true := decide_eq_true (by unfold bestOf; omega)
      rw [e1, e2]
      exact ⟨rfl, rfl⟩
theorem refat_fn (l : List Running) (A : Option Addr) (c : Nat) (month : Int) (b : World) (H : List Asr) (hR : Rd H A l) (hl : l.length ≤ 140737488355328) :
    Fn Try.prog 21 [.slice A l.length c, .int .i64 month] b H (fun v H' => v = .tuple #[.agg (Enc.cells (atR l month)).toArray, .bool (decide (0 ≤ bestOf l month))] ∧ H = H') := by
  refine fn_of_at (by kernel_rfl) Try.func21 rfl Try.ntmps21 rfl rfl ?_
  refine at_seq ?_
  refine at_region ?_
  refine wl_eff rfl rfl rfl (ef_alloc (cs := [.int .i64 0, .int .i64 0, .bool false]) (z := .agg #[.int .i64 0, .int .i64 0, .bool false]) rfl (by kernel_rfl) rfl) ?_
  rintro _ _ ⟨g0_0, rfl, rfl⟩
  refine wl_read rfl rfl rfl (yl_assign rfl rfl) ?_
  refine wl_nil ?_
  refine at_keep (Keep.cons 0 rfl (Keep.cons 1 rfl (Keep.cons 4 rfl (Keep.cons 5 rfl Keep.nil)))) ?_
  refine at_seq ?_
  refine at_region ?_
  refine wl_read rfl rfl rfl (yl_assign rfl rfl) ?_
  refine wl_nil ?_
  refine at_keep (Keep.cons 0 rfl (Keep.cons 1 rfl (Keep.cons 4 rfl (Keep.cons 5 rfl (Keep.cons 6 rfl Keep.nil))))) ?_
  refine at_seq ?_
  refine at_seq ?_
  refine at_region ?_
  refine wl_read rfl rfl rfl (yl_assign rfl rfl) ?_
  refine wl_nil ?_
  refine at_keep (Keep.cons 0 rfl (Keep.cons 1 rfl (Keep.cons 4 rfl (Keep.cons 5 rfl (Keep.cons 6 rfl (Keep.cons 7 rfl Keep.nil)))))) ?_
  refine at_block ?_
  refine at_keep (L' := (fun k => [(0, .slice A l.length c), (1, .int .i64 month), (4, .pointer (some ⟨g0_0, 0, none⟩)), (5, .bool false), (6, .int .i64 (best l month k)), (7, .int .i64 (k : Int))]) 0) (Keep.consEq 0 rfl rfl (Keep.consEq 1 rfl rfl (Keep.consEq 4 rfl rfl (Keep.consEq 5 rfl rfl (Keep.consEq 6 rfl rfl (Keep.consEq 7 rfl rfl Keep.nil)))))) ?_
  refine at_loop1 (fun k => k ≤ l.length) (fun k => [(0, .slice A l.length c), (1, .int .i64 month), (4, .pointer (some ⟨g0_0, 0, none⟩)), (5, .bool false), (6, .int .i64 (best l month k)), (7, .int .i64 (k : Int))]) (fun k => Bk g0_0 32 [.int .i64 0, .int .i64 0, .bool false] :: H) (fun k => l.length - k) 0 (by omega) ?_
  intro k hI ih
  have hb := best_bd l month k
  refine at_seq ?_
  refine at_seq ?_
  refine at_region ?_
  refine wl_read rfl rfl rfl (yl_move rfl rfl) ?_
  refine wl_read rfl rfl rfl (yl_move rfl rfl) ?_
  refine wl_read rfl rfl rfl (yl_len rfl rfl Try.underlying25) ?_
  refine wl_split rfl rfl rfl (yp_lss rfl rfl rfl) ?_ ?_
  · intro h3_3
    refine wl_nil ?_
    refine at_keep (Keep.cons 0 rfl (Keep.cons 1 rfl (Keep.cons 4 rfl (Keep.cons 5 rfl (Keep.cons 6 rfl (Keep.cons 7 rfl (Keep.cons 11 rfl Keep.nil))))))) ?_
    refine at_true rfl ?_
    refine at_skip ?_
    refine at_seq ?_
    refine at_block ?_
    refine at_seq ?_
    have hk1 : k < l.length := by omega
    refine at_draw0 (.fl 0 (.fl 1 (.fl 2 (.fl 3 (.fl 4 (.fl 5 (.fl 6 (.fl 7 (.fl 8 (.fl 9 (.fl 10 (.fl 11 (.fl 12 (.fl 13 (.fl 14 (.fl 15 (.fl 16 (.fl 17 (.fl 18 (.fl 19 (.fl 20 (.fl 21 (.fl 22 (.fl 23 .nil)))))))))))))))))))))))) (by kernel_rfl) (by kernel_rfl) ?_
    refine wt_read rfl rfl rfl rfl (yl_move rfl rfl) ?_
    refine wt_read rfl rfl rfl rfl (yl_move rfl rfl) ?_
    refine wt_read rfl rfl rfl rfl (yl_index rfl rfl rfl (hR.cons _) (at_some hk1) rfl rfl Try.underlying25 (by kernel_rfl) rfl) ?_
    refine wt_read rfl rfl rfl rfl (yl_field rfl rfl Try.underlying32 rfl (by kernel_rfl) rfl) ?_
    refine wt_read rfl rfl rfl rfl (yl_load rfl rfl Try.underlying3 rfl ((hR.cons _).cell2 (at_some hk1) rfl)) ?_
    refine wt_read rfl rfl rfl rfl (yl_move rfl rfl) ?_
    refine wt_split rfl rfl rfl rfl (yp_leq rfl rfl rfl) ?_ ?_
    · intro h5_6
      refine wt_read rfl rfl rfl rfl (yl_move rfl rfl) ?_
      refine wt_read rfl rfl rfl rfl (yl_move rfl rfl) ?_
      refine wt_split rfl rfl rfl rfl (yp_lss rfl rfl rfl) ?_ ?_
      · intro h5_9
        refine wt_read rfl rfl rfl rfl (yl_move rfl rfl) ?_
        refine wt_skip rfl rfl rfl rfl ?_
        refine wt_skip rfl rfl rfl rfl ?_
        refine wt_skip rfl rfl rfl rfl ?_
        refine wt_skip rfl rfl rfl rfl ?_
        refine wt_skip rfl rfl rfl rfl ?_
        refine wt_skip rfl rfl rfl rfl ?_
        refine wt_skip rfl rfl rfl rfl ?_
        refine wt_skip rfl rfl rfl rfl ?_
        refine wt_skip rfl rfl rfl rfl ?_
        refine wt_skip rfl rfl rfl rfl ?_
        refine wt_skip rfl rfl rfl rfl ?_
        refine wt_read rfl rfl rfl rfl (yl_pickT rfl rfl rfl) ?_
        refine wt_read rfl rfl rfl rfl (yl_pickT rfl rfl rfl) ?_
        refine wt_nil ?_
        refine at_keep (Keep.cons 0 rfl (Keep.cons 1 rfl (Keep.cons 4 rfl (Keep.cons 5 rfl (Keep.cons 6 rfl (Keep.cons 7 rfl (Keep.cons 11 rfl (Keep.cons 37 rfl Keep.nil)))))))) ?_
        refine at_true rfl ?_
        
        refine at_region ?_
        refine wl_read rfl rfl rfl (yl_move rfl rfl) ?_
        refine wl_read rfl rfl rfl (yl_assign rfl rfl) ?_
        refine wl_nil ?_
        refine at_keep (Keep.cons 0 rfl (Keep.cons 1 rfl (Keep.cons 4 rfl (Keep.cons 5 rfl (Keep.cons 6 rfl (Keep.cons 7 rfl (Keep.cons 11 rfl (Keep.cons 37 rfl Keep.nil)))))))) ?_
        refine at_inBlock ?_
        have hbs : best l month (k + 1) = (k : Int) := by simp only [best]; rw [if_pos (by unfold better; omega)]
        refine at_region ?_
        refine wl_read rfl rfl rfl (yl_move rfl rfl) ?_
        refine wl_read rfl rfl rfl (yl_add rfl rfl rfl (w64 (by omega) (by omega))) ?_
        refine wl_read rfl rfl rfl (yl_assign rfl rfl) ?_
        refine wl_nil ?_
        refine at_keep (Keep.cons 0 rfl (Keep.cons 1 rfl (Keep.cons 4 rfl (Keep.cons 5 rfl (Keep.cons 6 rfl (Keep.cons 7 rfl (Keep.cons 11 rfl (Keep.cons 37 rfl Keep.nil)))))))) ?_
        exact at_keep (L' := (fun k => [(0, .slice A l.length c), (1, .int .i64 month), (4, .pointer (some ⟨g0_0, 0, none⟩)), (5, .bool false), (6, .int .i64 (best l month k)), (7, .int .i64 (k : Int))]) (k + 1)) (Keep.consEq 0 rfl rfl (Keep.consEq 1 rfl rfl (Keep.consEq 4 rfl rfl (Keep.consEq 5 rfl rfl (Keep.consEq 6 rfl (by rw [hbs]) (Keep.consEq 7 rfl rfl Keep.nil)))))) (ih (k + 1) (by omega) (by omega))
      · intro h5_9
        refine wt_read rfl rfl rfl rfl (yl_move rfl rfl) ?_
        refine wt_read rfl rfl rfl rfl (yl_move rfl rfl) ?_
        refine wt_read rfl rfl rfl rfl (yl_move rfl rfl) ?_
        refine wt_read rfl rfl rfl rfl (yl_index rfl rfl rfl (hR.cons _) (at_some hk1) rfl rfl Try.underlying25 (by kernel_rfl) rfl) ?_
        refine wt_read rfl rfl rfl rfl (yl_field rfl rfl Try.underlying32 rfl (by kernel_rfl) rfl) ?_
        refine wt_read rfl rfl rfl rfl (yl_load rfl rfl Try.underlying3 rfl ((hR.cons _).cell2 (at_some hk1) rfl)) ?_
        refine wt_read rfl rfl rfl rfl (yl_move rfl rfl) ?_
        refine wt_read rfl rfl rfl rfl (yl_move rfl rfl) ?_
        refine wt_read rfl rfl rfl rfl (yl_index rfl rfl rfl (hR.cons _) (at_some (show (best l month k).toNat < l.length by omega)) (by omega) rfl Try.underlying25 (by kernel_rfl) rfl) ?_
        refine wt_read rfl rfl rfl rfl (yl_field rfl rfl Try.underlying32 rfl (by kernel_rfl) rfl) ?_
        refine wt_read rfl rfl rfl rfl (yl_load rfl rfl Try.underlying3 rfl ((hR.cons _).cell2 (at_some (show (best l month k).toNat < l.length by omega)) rfl)) ?_
        refine wt_split rfl rfl rfl rfl (yp_gtr rfl rfl rfl) ?_ ?_
        · intro h5_21
          refine wt_read rfl rfl rfl rfl (yl_pickF rfl rfl rfl) ?_
          refine wt_read rfl rfl rfl rfl (yl_pickT rfl rfl rfl) ?_
          refine wt_nil ?_
          refine at_keep (Keep.cons 0 rfl (Keep.cons 1 rfl (Keep.cons 4 rfl (Keep.cons 5 rfl (Keep.cons 6 rfl (Keep.cons 7 rfl (Keep.cons 11 rfl (Keep.cons 37 rfl Keep.nil)))))))) ?_
          refine at_true rfl ?_
          
          refine at_region ?_
          refine wl_read rfl rfl rfl (yl_move rfl rfl) ?_
          refine wl_read rfl rfl rfl (yl_assign rfl rfl) ?_
          refine wl_nil ?_
          refine at_keep (Keep.cons 0 rfl (Keep.cons 1 rfl (Keep.cons 4 rfl (Keep.cons 5 rfl (Keep.cons 6 rfl (Keep.cons 7 rfl (Keep.cons 11 rfl (Keep.cons 37 rfl Keep.nil)))))))) ?_
          refine at_inBlock ?_
          have hbs : best l month (k + 1) = (k : Int) := by simp only [best]; rw [if_pos (by unfold better; omega)]
          refine at_region ?_
          refine wl_read rfl rfl rfl (yl_move rfl rfl) ?_
          refine wl_read rfl rfl rfl (yl_add rfl rfl rfl (w64 (by omega) (by omega))) ?_
          refine wl_read rfl rfl rfl (yl_assign rfl rfl) ?_
          refine wl_nil ?_
          refine at_keep (Keep.cons 0 rfl (Keep.cons 1 rfl (Keep.cons 4 rfl (Keep.cons 5 rfl (Keep.cons 6 rfl (Keep.cons 7 rfl (Keep.cons 11 rfl (Keep.cons 37 rfl Keep.nil)))))))) ?_
          exact at_keep (L' := (fun k => [(0, .slice A l.length c), (1, .int .i64 month), (4, .pointer (some ⟨g0_0, 0, none⟩)), (5, .bool false), (6, .int .i64 (best l month k)), (7, .int .i64 (k : Int))]) (k + 1)) (Keep.consEq 0 rfl rfl (Keep.consEq 1 rfl rfl (Keep.consEq 4 rfl rfl (Keep.consEq 5 rfl rfl (Keep.consEq 6 rfl (by rw [hbs]) (Keep.consEq 7 rfl rfl Keep.nil)))))) (ih (k + 1) (by omega) (by omega))
        · intro h5_21
          refine wt_read rfl rfl rfl rfl (yl_pickF rfl rfl rfl) ?_
          refine wt_read rfl rfl rfl rfl (yl_pickT rfl rfl rfl) ?_
          refine wt_nil ?_
          refine at_keep (Keep.cons 0 rfl (Keep.cons 1 rfl (Keep.cons 4 rfl (Keep.cons 5 rfl (Keep.cons 6 rfl (Keep.cons 7 rfl (Keep.cons 11 rfl (Keep.cons 37 rfl Keep.nil)))))))) ?_
          refine at_false rfl ?_
          refine at_skip ?_
          refine at_inBlock ?_
          have hbs : best l month (k + 1) = best l month k := by simp only [best]; rw [if_neg (by unfold better; omega)]
          refine at_region ?_
          refine wl_read rfl rfl rfl (yl_move rfl rfl) ?_
          refine wl_read rfl rfl rfl (yl_add rfl rfl rfl (w64 (by omega) (by omega))) ?_
          refine wl_read rfl rfl rfl (yl_assign rfl rfl) ?_
          refine wl_nil ?_
          refine at_keep (Keep.cons 0 rfl (Keep.cons 1 rfl (Keep.cons 4 rfl (Keep.cons 5 rfl (Keep.cons 6 rfl (Keep.cons 7 rfl (Keep.cons 11 rfl (Keep.cons 37 rfl Keep.nil)))))))) ?_
          exact at_keep (L' := (fun k => [(0, .slice A l.length c), (1, .int .i64 month), (4, .pointer (some ⟨g0_0, 0, none⟩)), (5, .bool false), (6, .int .i64 (best l month k)), (7, .int .i64 (k : Int))]) (k + 1)) (Keep.consEq 0 rfl rfl (Keep.consEq 1 rfl rfl (Keep.consEq 4 rfl rfl (Keep.consEq 5 rfl rfl (Keep.consEq 6 rfl (by rw [hbs]) (Keep.consEq 7 rfl rfl Keep.nil)))))) (ih (k + 1) (by omega) (by omega))
    · intro h5_6
      refine wt_read rfl rfl rfl rfl (yl_move rfl rfl) ?_
      refine wt_skip rfl rfl rfl rfl ?_
      refine wt_skip rfl rfl rfl rfl ?_
      refine wt_skip rfl rfl rfl rfl ?_
      refine wt_skip rfl rfl rfl rfl ?_
      refine wt_skip rfl rfl rfl rfl ?_
      refine wt_skip rfl rfl rfl rfl ?_
      refine wt_skip rfl rfl rfl rfl ?_
      refine wt_skip rfl rfl rfl rfl ?_
      refine wt_skip rfl rfl rfl rfl ?_
      refine wt_skip rfl rfl rfl rfl ?_
      refine wt_skip rfl rfl rfl rfl ?_
      refine wt_skip rfl rfl rfl rfl ?_
      refine wt_skip rfl rfl rfl rfl ?_
      refine wt_skip rfl rfl rfl rfl ?_
      refine wt_skip rfl rfl rfl rfl ?_
      refine wt_read rfl rfl rfl rfl (yl_pickF rfl rfl rfl) ?_
      refine wt_nil ?_
      refine at_keep (Keep.cons 0 rfl (Keep.cons 1 rfl (Keep.cons 4 rfl (Keep.cons 5 rfl (Keep.cons 6 rfl (Keep.cons 7 rfl (Keep.cons 11 rfl (Keep.cons 37 rfl Keep.nil)))))))) ?_
      refine at_false rfl ?_
      refine at_skip ?_
      refine at_inBlock ?_
      have hbs : best l month (k + 1) = best l month k := by simp only [best]; rw [if_neg (by unfold better; omega)]
      refine at_region ?_
      refine wl_read rfl rfl rfl (yl_move rfl rfl) ?_
      refine wl_read rfl rfl rfl (yl_add rfl rfl rfl (w64 (by omega) (by omega))) ?_
      refine wl_read rfl rfl rfl (yl_assign rfl rfl) ?_
      refine wl_nil ?_
      refine at_keep (Keep.cons 0 rfl (Keep.cons 1 rfl (Keep.cons 4 rfl (Keep.cons 5 rfl (Keep.cons 6 rfl (Keep.cons 7 rfl (Keep.cons 11 rfl (Keep.cons 37 rfl Keep.nil)))))))) ?_
      exact at_keep (L' := (fun k => [(0, .slice A l.length c), (1, .int .i64 month), (4, .pointer (some ⟨g0_0, 0, none⟩)), (5, .bool false), (6, .int .i64 (best l month k)), (7, .int .i64 (k : Int))]) (k + 1)) (Keep.consEq 0 rfl rfl (Keep.consEq 1 rfl rfl (Keep.consEq 4 rfl rfl (Keep.consEq 5 rfl rfl (Keep.consEq 6 rfl (by rw [hbs]) (Keep.consEq 7 rfl rfl Keep.nil)))))) (ih (k + 1) (by omega) (by omega))
  · intro h3_3
    refine wl_nil ?_
    refine at_keep (Keep.cons 0 rfl (Keep.cons 1 rfl (Keep.cons 4 rfl (Keep.cons 5 rfl (Keep.cons 6 rfl (Keep.cons 7 rfl (Keep.cons 11 rfl Keep.nil))))))) ?_
    refine at_false rfl ?_
    refine at_exit rfl ?_
    refine at_seq ?_
    refine at_seq ?_
    obtain rfl : k = l.length := by omega
    refine at_region ?_
    refine wl_read rfl rfl rfl (yl_move rfl rfl) ?_
    refine wl_split rfl rfl rfl (yp_lss rfl rfl rfl) ?_ ?_
    · intro h7_1
      refine wl_nil ?_
      refine at_keep (Keep.cons 0 rfl (Keep.cons 1 rfl (Keep.cons 4 rfl (Keep.cons 5 rfl (Keep.cons 6 rfl (Keep.cons 7 rfl (Keep.cons 11 rfl (Keep.cons 40 rfl Keep.nil)))))))) ?_
      refine at_true rfl ?_
      refine at_seq ?_
      refine at_region ?_
      refine wl_read rfl rfl rfl (yl_build (cs := Enc.cells (⟨0, 0, false⟩ : Running)) rfl rfl (fun _ => by kernel_rfl)) ?_
      refine wl_store rfl rfl (es_at0 (es_storeN 0 rfl rfl rfl rfl (by kernel_rfl) rfl rfl)) ?_
      refine wl_read rfl rfl rfl (yl_assign rfl rfl) ?_
      refine wl_nil ?_
      refine at_keep (Keep.cons 0 rfl (Keep.cons 1 rfl (Keep.cons 4 rfl (Keep.cons 5 rfl (Keep.cons 6 rfl (Keep.cons 7 rfl (Keep.cons 11 rfl (Keep.cons 40 rfl Keep.nil)))))))) ?_
      refine at_retH (fun _ hw => hw.tail) Try.func21 (resC1 0 rfl rfl rfl Try.underlying32 rfl (by kernel_rfl) rfl) ?_
      have e1 : atR l month = ⟨0, 0, false⟩ := by unfold atR bestOf; rw [if_pos h7_1]
      have e2 : decide (0 ≤ bestOf l month) = false := decide_eq_false (by unfold bestOf; omega)
      rw [e1, e2]
      exact ⟨rfl, rfl⟩
    · intro h7_1
      refine wl_nil ?_
      refine at_keep (Keep.cons 0 rfl (Keep.cons 1 rfl (Keep.cons 4 rfl (Keep.cons 5 rfl (Keep.cons 6 rfl (Keep.cons 7 rfl (Keep.cons 11 rfl (Keep.cons 40 rfl Keep.nil)))))))) ?_
      refine at_false rfl ?_
      refine at_skip ?_
      refine at_seq ?_
      refine at_region ?_
      refine wl_read rfl rfl rfl (yl_move rfl rfl) ?_
      refine wl_read rfl rfl rfl (yl_move rfl rfl) ?_
      refine wl_read rfl rfl rfl (yl_index rfl rfl rfl (hR.cons _) (at_some (show (best l month l.length).toNat < l.length by omega)) (by omega) rfl Try.underlying25 (by kernel_rfl) rfl) ?_
      refine wl_read rfl rfl rfl (yl_loadRow rfl rfl (hR.cons _) (at_some (show (best l month l.length).toNat < l.length by omega)) Try.underlying32 rfl (by kernel_rfl) rfl) ?_
      refine wl_store rfl rfl (es_at0 (es_storeN 0 rfl rfl rfl rfl (by kernel_rfl) rfl rfl)) ?_
      refine wl_read rfl rfl rfl (yl_assign rfl rfl) ?_
      refine wl_nil ?_
      refine at_keep (Keep.cons 0 rfl (Keep.cons 1 rfl (Keep.cons 4 rfl (Keep.cons 5 rfl (Keep.cons 6 rfl (Keep.cons 7 rfl (Keep.cons 11 rfl (Keep.cons 40 rfl Keep.nil)))))))) ?_
      refine at_retH (fun _ hw => hw.tail) Try.func21 (resC1 0 rfl rfl rfl Try.underlying32 rfl (by kernel_rfl) rfl) ?_
      have e1 : atR l month = at_ l (best l month l.length).toNat := by unfold atR bestOf; rw [if_neg h7_1]
      have e2 : decide (0 ≤ bestOf l month) = true := decide_eq_true (by unfold bestOf; omega)
      rw [e1, e2]
      exact ⟨rfl, rfl⟩
end Go.Proofs.Yteckaphnapljnaa

/- Walks of Run, and of the reference Run. -/
import Derived.Test.YteckaphnapljnaaB
namespace Go.Proofs.Yteckaphnapljnaa
open Go

theorem run_fn (s : List Stage) (A : Option Addr) (c : Nat) (b : World) (H : List Asr) (hR : Rd H A s) (hl : s.length ≤ 140737488355328) :
    Fn Try.prog 15 [.slice A s.length c] b H (fun v H' => (Valid s ∧ ∃ A' c', v = .tuple #[.slice A' (run s).length c', .int .i64 0] ∧ H' = Sl A' c' 32 (run s) :: H) ∨ (¬ Valid s ∧ v = .tuple #[.slice none 0 0, .int .i64 1] ∧ H = H')) := by
  refine fn_of_at (by kernel_rfl) Try.func15 rfl Try.ntmps15 rfl rfl ?_
  refine at_seq ?_
  refine at_region ?_
  refine wl_read rfl rfl rfl (yl_assign rfl rfl) ?_
  refine wl_read rfl rfl rfl (yl_assign rfl rfl) ?_
  refine wl_nil ?_
  refine at_keep (Keep.cons 0 rfl (Keep.cons 2 rfl (Keep.cons 3 rfl Keep.nil))) ?_
  refine at_seq ?_
  refine at_seq ?_
  refine at_region ?_
  refine wl_read rfl rfl rfl (yl_move rfl rfl) ?_
  refine wl_call rfl rfl rfl (en_call rfl rfl) (valid_fn s A c _ _ hR hl) ?_
  rintro _ _ ⟨rfl, t, rfl, hv⟩
  refine wl_read rfl rfl rfl (yl_not rfl rfl) ?_
  refine wl_nil ?_
  refine at_keep (Keep.cons 0 rfl (Keep.cons 2 rfl (Keep.cons 3 rfl (Keep.cons 11 rfl Keep.nil)))) ?_
  refine at_if rfl (fun hc11 => ?_) (fun hc11 => ?_)
  ·
    refine at_seq ?_
    refine at_region ?_
    refine wl_read rfl rfl rfl (yl_assign rfl rfl) ?_
    refine wl_read rfl rfl rfl (yl_assign rfl rfl) ?_
    refine wl_nil ?_
    refine at_keep (Keep.cons 0 rfl (Keep.cons 2 rfl (Keep.cons 3 rfl (Keep.cons 11 rfl Keep.nil)))) ?_
    refine at_ret Try.func15 (res2 rfl rfl rfl) ?_
    exact .inr ⟨fun h => by simp [hv.2 h] at hc11, rfl, rfl⟩
  ·
    refine at_skip ?_
    refine at_seq ?_
    have hval : Valid s := hv.1 (by simpa using hc11)
    have hl120 := hval.1
    refine at_region ?_
    refine wl_read rfl rfl rfl (yl_assign rfl rfl) ?_
    refine wl_nil ?_
    refine at_keep (Keep.cons 0 rfl (Keep.cons 2 rfl (Keep.cons 3 rfl (Keep.cons 4 rfl (Keep.cons 11 rfl Keep.nil))))) ?_
    refine at_seq ?_
    refine at_region ?_
    refine wl_read rfl rfl rfl (yl_assign rfl rfl) ?_
    refine wl_read rfl rfl rfl (yl_assign rfl rfl) ?_
    refine wl_nil ?_
    refine at_keep (Keep.cons 0 rfl (Keep.cons 2 rfl (Keep.cons 3 rfl (Keep.cons 4 rfl (Keep.cons 5 rfl (Keep.cons 6 rfl (Keep.cons 11 rfl Keep.nil))))))) ?_
    refine at_seq ?_
    refine at_seq ?_
    refine at_region ?_
    refine wl_read rfl rfl rfl (yl_move rfl rfl) ?_
    refine wl_read rfl rfl rfl (yl_len rfl rfl Try.underlying23) ?_
    refine wl_read rfl rfl rfl (yl_move rfl rfl) ?_
    refine wl_nil ?_
    refine at_keep (Keep.cons 0 rfl (Keep.cons 2 rfl (Keep.cons 3 rfl (Keep.cons 4 rfl (Keep.cons 5 rfl (Keep.cons 6 rfl (Keep.cons 11 rfl (Keep.cons 12 rfl (Keep.cons 13 rfl (Keep.cons 14 rfl Keep.nil)))))))))) ?_
    refine at_block ?_
    refine at_keep (L' := (fun A1 c1 k => [(4, .slice A1 (runs s k).length c1), (5, .int .i64 (fl s k).1), (6, .int .i64 (fl s k).2), (12, .slice A s.length c), (13, .int .i64 (s.length : Int)), (14, .int .i64 (k : Int))]) none 0 0) (Keep.consEq 4 rfl rfl (Keep.consEq 5 rfl rfl (Keep.consEq 6 rfl rfl (Keep.consEq 12 rfl rfl (Keep.consEq 13 rfl rfl (Keep.consEq 14 rfl rfl Keep.nil)))))) ?_
    refine at_heap (fun _ hw => hw.nilSl (α := Running) 32) ?_
    refine at_loop3 (fun A1 c1 k => k ≤ s.length) (fun A1 c1 k => [(4, .slice A1 (runs s k).length c1), (5, .int .i64 (fl s k).1), (6, .int .i64 (fl s k).2), (12, .slice A s.length c), (13, .int .i64 (s.length : Int)), (14, .int .i64 (k : Int))]) (fun A1 c1 k => Sl A1 c1 32 (runs s k) :: H) (fun A1 c1 k => s.length - k) none 0 0 (by omega) ?_
    intro A1 c1 k hI ih
    have hsl := runs_length s k
    have hsucc := runs_succ s k
    refine at_seq ?_
    refine at_region ?_
    refine wl_split rfl rfl rfl (yp_lss rfl rfl rfl) ?_ ?_
    · intro h6_0
      refine wl_nil ?_
      refine at_keep (Keep.cons 4 rfl (Keep.cons 5 rfl (Keep.cons 6 rfl (Keep.cons 12 rfl (Keep.cons 13 rfl (Keep.cons 14 rfl (Keep.cons 15 rfl Keep.nil))))))) ?_
      refine at_seq ?_
      refine at_true rfl ?_
      refine at_skip ?_
      refine at_seq ?_
      refine at_block ?_
      refine at_seq ?_
      have hk1 : k < s.length := by omega
      refine at_region ?_
      refine wl_read rfl rfl rfl (yl_index rfl rfl rfl (hR.cons _) (at_some hk1) rfl rfl Try.underlying23 (by kernel_rfl) rfl) ?_
      refine wl_read rfl rfl rfl (yl_loadRow rfl rfl (hR.cons _) (at_some hk1) Try.underlying37 rfl (by kernel_rfl) rfl) ?_
      refine wl_eff rfl rfl rfl (ef_alloc (cs := [.int .i64 0, .bool false, .bool false, .int .i64 0]) (z := .agg #[.int .i64 0, .bool false, .bool false, .int .i64 0]) rfl (by kernel_rfl) rfl) ?_
      rintro _ _ ⟨g7_2, rfl, rfl⟩
      refine wl_store rfl rfl (es_at0 (es_storeN 0 rfl rfl rfl rfl (by kernel_rfl) rfl rfl)) ?_
      refine wl_nil ?_
      refine at_keep (Keep.cons 4 rfl (Keep.cons 5 rfl (Keep.cons 6 rfl (Keep.cons 8 rfl (Keep.cons 12 rfl (Keep.cons 13 rfl (Keep.cons 14 rfl (Keep.cons 15 rfl Keep.nil)))))))) ?_
      refine at_seq ?_
      refine at_block ?_
      refine at_seq ?_
      refine at_region ?_
      refine wl_read rfl rfl rfl (yl_fieldB rfl rfl Try.underlying37 rfl (by kernel_rfl) rfl) ?_
      refine wl_splitB rfl rfl rfl (yl_load rfl rfl Try.underlying4 rfl (CellAt.bk 0 rfl rfl)) ?_ ?_
      · intro h11_1
        refine wl_read rfl rfl rfl (yl_assign rfl rfl) ?_
        refine wl_nil ?_
        refine at_keep (Keep.cons 4 rfl (Keep.cons 5 rfl (Keep.cons 6 rfl (Keep.cons 8 rfl (Keep.cons 12 rfl (Keep.cons 13 rfl (Keep.cons 14 rfl (Keep.cons 15 rfl (Keep.cons 27 rfl Keep.nil))))))))) ?_
        refine at_true rfl ?_
        refine at_region ?_
        refine wl_read rfl rfl rfl (yl_assign rfl rfl) ?_
        refine wl_read rfl rfl rfl (yl_assign rfl rfl) ?_
        refine wl_nil ?_
        refine at_keep (Keep.cons 4 rfl (Keep.cons 5 rfl (Keep.cons 6 rfl (Keep.cons 8 rfl (Keep.cons 12 rfl (Keep.cons 13 rfl (Keep.cons 14 rfl (Keep.cons 15 rfl (Keep.cons 27 rfl Keep.nil))))))))) ?_
        refine at_inBlock ?_
        have hfl : fl s (k + 1) = (0, 0) := by simp only [fl, h11_1, ↓reduceIte, Bool.false_eq_true]
        refine at_region ?_
        refine wl_read rfl rfl rfl (yl_move rfl rfl) ?_
        refine wl_read rfl rfl rfl (yl_fieldB rfl rfl Try.underlying37 rfl (by kernel_rfl) rfl) ?_
        refine wl_read rfl rfl rfl (yl_load rfl rfl Try.underlying3 rfl (CellAt.bk 0 rfl rfl)) ?_
        refine wl_read rfl rfl rfl (yl_move rfl rfl) ?_
        refine wl_read rfl rfl rfl (yl_fieldB rfl rfl Try.underlying37 rfl (by kernel_rfl) rfl) ?_
        refine wl_read rfl rfl rfl (yl_boolT (yl_load rfl rfl Try.underlying4 rfl (CellAt.bk 0 rfl rfl)) h11_1) ?_
        refine wl_read rfl rfl rfl (yl_notT rfl rfl) ?_
        refine wl_read rfl rfl rfl (yl_move rfl rfl) ?_
        refine wl_skip rfl rfl rfl ?_
        refine wl_skip rfl rfl rfl ?_
        refine wl_skip rfl rfl rfl ?_
        refine wl_skip rfl rfl rfl ?_
        refine wl_read rfl rfl rfl (yl_pickF rfl rfl rfl) ?_
        have e : rw_ s k = (⟨(at_ s k).month, 0, false⟩ : Running) := by simp only [rw_, hfl]; simp [h11_1]
        refine wl_read rfl rfl rfl (yl_build (cs := Enc.cells (⟨(at_ s k).month, 0, false⟩ : Running)) rfl rfl (fun _ => by kernel_rfl)) ?_
        refine wl_eff rfl rfl rfl (ef_buildSlice (e := 32) [(⟨(at_ s k).month, 0, false⟩ : Running)] rfl rfl (fun _ => by kernel_rfl) rfl rfl) ?_
        rintro _ _ ⟨T13_14, rfl, rfl⟩
        refine wl_eff rfl rfl rfl (ef_append (ys := [(⟨(at_ s k).month, 0, false⟩ : Running)]) 2 rfl rfl rfl rfl (Rd.of_sl 0 rfl) Try.underlying25 info32 rfl rfl (by simp only [List.length_singleton, maxLen]; omega) (by simp only [List.length_singleton]; omega)) ?_
        rintro _ _ ⟨A2, c2, rfl, hH⟩
        simp only [List.set_cons_succ, List.set_cons_zero] at hH; subst hH
        rw [← e, ← hsucc]
        refine wl_heap (fun _ hw => hw.tail.tail) ?_
        refine wl_read rfl rfl rfl (yl_assign rfl rfl) ?_
        refine wl_nil ?_
        refine at_keep (Keep.cons 4 rfl (Keep.cons 5 rfl (Keep.cons 6 rfl (Keep.cons 8 rfl (Keep.cons 12 rfl (Keep.cons 13 rfl (Keep.cons 14 rfl (Keep.cons 15 rfl (Keep.cons 27 rfl Keep.nil))))))))) ?_
        refine at_inBlock ?_
        refine at_region ?_
        refine wl_read rfl rfl rfl (yl_add rfl rfl rfl (w64 (by omega) (by omega))) ?_
        refine wl_read rfl rfl rfl (yl_move rfl rfl) ?_
        refine wl_nil ?_
        refine at_keep (Keep.cons 4 rfl (Keep.cons 5 rfl (Keep.cons 6 rfl (Keep.cons 8 rfl (Keep.cons 12 rfl (Keep.cons 13 rfl (Keep.cons 14 rfl (Keep.cons 15 rfl (Keep.cons 27 rfl Keep.nil))))))))) ?_
        exact at_keep (L' := (fun A1 c1 k => [(4, .slice A1 (runs s k).length c1), (5, .int .i64 (fl s k).1), (6, .int .i64 (fl s k).2), (12, .slice A s.length c), (13, .int .i64 (s.length : Int)), (14, .int .i64 (k : Int))]) A2 c2 (k + 1)) (Keep.consEq 4 rfl rfl (Keep.consEq 5 rfl (by rw [hfl]) (Keep.consEq 6 rfl (by rw [hfl]) (Keep.consEq 12 rfl rfl (Keep.consEq 13 rfl rfl (Keep.consEq 14 rfl rfl Keep.nil)))))) (ih A2 c2 (k + 1) (by omega) (by omega))
      · intro h11_1
        refine wl_read rfl rfl rfl (yl_assign rfl rfl) ?_
        refine wl_nil ?_
        refine at_keep (Keep.cons 4 rfl (Keep.cons 5 rfl (Keep.cons 6 rfl (Keep.cons 8 rfl (Keep.cons 12 rfl (Keep.cons 13 rfl (Keep.cons 14 rfl (Keep.cons 15 rfl (Keep.cons 27 rfl Keep.nil))))))))) ?_
        refine at_false rfl ?_
        refine at_seq ?_
        refine at_seq ?_
        refine at_region ?_
        refine wl_read rfl rfl rfl (yl_fieldB rfl rfl Try.underlying37 rfl (by kernel_rfl) rfl) ?_
        refine wl_splitB rfl rfl rfl (yl_load rfl rfl Try.underlying4 rfl (CellAt.bk 0 rfl rfl)) ?_ ?_
        · intro h8_1
          refine wl_nil ?_
          refine at_keep (Keep.cons 4 rfl (Keep.cons 5 rfl (Keep.cons 6 rfl (Keep.cons 8 rfl (Keep.cons 12 rfl (Keep.cons 13 rfl (Keep.cons 14 rfl (Keep.cons 15 rfl (Keep.cons 19 rfl (Keep.cons 27 rfl Keep.nil)))))))))) ?_
          refine at_true rfl ?_
          refine at_region ?_
          refine wl_read rfl rfl rfl (yl_move rfl rfl) ?_
          refine wl_read rfl rfl rfl (yl_move rfl rfl) ?_
          refine wl_read rfl rfl rfl (yl_max rfl rfl rfl) ?_
          refine wl_read rfl rfl rfl (yl_assign rfl rfl) ?_
          refine wl_nil ?_
          refine at_keep (Keep.cons 4 rfl (Keep.cons 5 rfl (Keep.cons 6 rfl (Keep.cons 8 rfl (Keep.cons 12 rfl (Keep.cons 13 rfl (Keep.cons 14 rfl (Keep.cons 15 rfl (Keep.cons 19 rfl (Keep.cons 27 rfl Keep.nil)))))))))) ?_
          refine at_region ?_
          refine wl_read rfl rfl rfl (yl_fieldB rfl rfl Try.underlying37 rfl (by kernel_rfl) rfl) ?_
          refine wl_read rfl rfl rfl (yl_load rfl rfl Try.underlying3 rfl (CellAt.bk 0 rfl rfl)) ?_
          refine wl_read rfl rfl rfl (yl_move rfl rfl) ?_
          refine wl_read rfl rfl rfl (yl_max rfl rfl rfl) ?_
          refine wl_read rfl rfl rfl (yl_assign rfl rfl) ?_
          refine wl_nil ?_
          refine at_keep (Keep.cons 4 rfl (Keep.cons 5 rfl (Keep.cons 6 rfl (Keep.cons 8 rfl (Keep.cons 12 rfl (Keep.cons 13 rfl (Keep.cons 14 rfl (Keep.cons 15 rfl (Keep.cons 19 rfl (Keep.cons 27 rfl Keep.nil)))))))))) ?_
          refine at_inBlock ?_
          have hfl : fl s (k + 1) = (max (fl s k).1 (fl s k).2, max (at_ s k).amount (max (fl s k).1 (fl s k).2)) := by simp only [fl, h11_1, h8_1, ↓reduceIte, Bool.false_eq_true]
          refine at_region ?_
          refine wl_read rfl rfl rfl (yl_move rfl rfl) ?_
          refine wl_read rfl rfl rfl (yl_fieldB rfl rfl Try.underlying37 rfl (by kernel_rfl) rfl) ?_
          refine wl_read rfl rfl rfl (yl_load rfl rfl Try.underlying3 rfl (CellAt.bk 0 rfl rfl)) ?_
          refine wl_read rfl rfl rfl (yl_move rfl rfl) ?_
          refine wl_read rfl rfl rfl (yl_fieldB rfl rfl Try.underlying37 rfl (by kernel_rfl) rfl) ?_
          refine wl_read rfl rfl rfl (yl_boolF (yl_load rfl rfl Try.underlying4 rfl (CellAt.bk 0 rfl rfl)) h11_1) ?_
          refine wl_read rfl rfl rfl (yl_notF rfl rfl) ?_
          refine wl_read rfl rfl rfl (yl_move rfl rfl) ?_
          refine wl_read rfl rfl rfl (yl_move rfl rfl) ?_
          refine wl_read rfl rfl rfl (yl_fieldB rfl rfl Try.underlying37 rfl (by kernel_rfl) rfl) ?_
          refine wl_read rfl rfl rfl (yl_load rfl rfl Try.underlying3 rfl (CellAt.bk 0 rfl rfl)) ?_
          refine wl_split rfl rfl rfl (yp_gtr rfl rfl rfl) ?_ ?_
          · intro h13_11
            refine wl_read rfl rfl rfl (yl_pickT rfl rfl rfl) ?_
            have e : rw_ s k = (⟨(at_ s k).month, max (at_ s k).amount (max (fl s k).1 (fl s k).2), true⟩ : Running) := by simp only [rw_, hfl]; simp [h11_1, h13_11]
            refine wl_read rfl rfl rfl (yl_build (cs := Enc.cells (⟨(at_ s k).month, max (at_ s k).amount (max (fl s k).1 (fl s k).2), true⟩ : Running)) rfl rfl (fun _ => by kernel_rfl)) ?_
            refine wl_eff rfl rfl rfl (ef_buildSlice (e := 32) [(⟨(at_ s k).month, max (at_ s k).amount (max (fl s k).1 (fl s k).2), true⟩ : Running)] rfl rfl (fun _ => by kernel_rfl) rfl rfl) ?_
            rintro _ _ ⟨T13_14, rfl, rfl⟩
            refine wl_eff rfl rfl rfl (ef_append (ys := [(⟨(at_ s k).month, max (at_ s k).amount (max (fl s k).1 (fl s k).2), true⟩ : Running)]) 2 rfl rfl rfl rfl (Rd.of_sl 0 rfl) Try.underlying25 info32 rfl rfl (by simp only [List.length_singleton, maxLen]; omega) (by simp only [List.length_singleton]; omega)) ?_
            rintro _ _ ⟨A2, c2, rfl, hH⟩
            simp only [List.set_cons_succ, List.set_cons_zero] at hH; subst hH
            rw [← e, ← hsucc]
            refine wl_heap (fun _ hw => hw.tail.tail) ?_
            refine wl_read rfl rfl rfl (yl_assign rfl rfl) ?_
            refine wl_nil ?_
            refine at_keep (Keep.cons 4 rfl (Keep.cons 5 rfl (Keep.cons 6 rfl (Keep.cons 8 rfl (Keep.cons 12 rfl (Keep.cons 13 rfl (Keep.cons 14 rfl (Keep.cons 15 rfl (Keep.cons 19 rfl (Keep.cons 27 rfl Keep.nil)))))))))) ?_
            refine at_inBlock ?_
            refine at_region ?_
            refine wl_read rfl rfl rfl (yl_add rfl rfl rfl (w64 (by omega) (by omega))) ?_
            refine wl_read rfl rfl rfl (yl_move rfl rfl) ?_
            refine wl_nil ?_
            refine at_keep (Keep.cons 4 rfl (Keep.cons 5 rfl (Keep.cons 6 rfl (Keep.cons 8 rfl (Keep.cons 12 rfl (Keep.cons 13 rfl (Keep.cons 14 rfl (Keep.cons 15 rfl (Keep.cons 19 rfl (Keep.cons 27 rfl Keep.nil)))))))))) ?_
            exact at_keep (L' := (fun A1 c1 k => [(4, .slice A1 (runs s k).length c1), (5, .int .i64 (fl s k).1), (6, .int .i64 (fl s k).2), (12, .slice A s.length c), (13, .int .i64 (s.length : Int)), (14, .int .i64 (k : Int))]) A2 c2 (k + 1)) (Keep.consEq 4 rfl rfl (Keep.consEq 5 rfl (by rw [hfl]) (Keep.consEq 6 rfl (by rw [hfl]) (Keep.consEq 12 rfl rfl (Keep.consEq 13 rfl rfl (Keep.consEq 14 rfl rfl Keep.nil)))))) (ih A2 c2 (k + 1) (by omega) (by omega))
          · intro h13_11
            refine wl_read rfl rfl rfl (yl_pickT rfl rfl rfl) ?_
            have e : rw_ s k = (⟨(at_ s k).month, max (at_ s k).amount (max (fl s k).1 (fl s k).2), false⟩ : Running) := by simp only [rw_, hfl]; simp [h11_1, h13_11]
            refine wl_read rfl rfl rfl (yl_build (cs := Enc.cells (⟨(at_ s k).month, max (at_ s k).amount (max (fl s k).1 (fl s k).2), false⟩ : Running)) rfl rfl (fun _ => by kernel_rfl)) ?_
            refine wl_eff rfl rfl rfl (ef_buildSlice (e := 32) [(⟨(at_ s k).month, max (at_ s k).amount (max (fl s k).1 (fl s k).2), false⟩ : Running)] rfl rfl (fun _ => by kernel_rfl) rfl rfl) ?_
            rintro _ _ ⟨T13_14, rfl, rfl⟩
            refine wl_eff rfl rfl rfl (ef_append (ys := [(⟨(at_ s k).month, max (at_ s k).amount (max (fl s k).1 (fl s k).2), false⟩ : Running)]) 2 rfl rfl rfl rfl (Rd.of_sl 0 rfl) Try.underlying25 info32 rfl rfl (by simp only [List.length_singleton, maxLen]; omega) (by simp only [List.length_singleton]; omega)) ?_
            rintro _ _ ⟨A2, c2, rfl, hH⟩
            simp only [List.set_cons_succ, List.set_cons_zero] at hH; subst hH
            rw [← e, ← hsucc]
            refine wl_heap (fun _ hw => hw.tail.tail) ?_
            refine wl_read rfl rfl rfl (yl_assign rfl rfl) ?_
            refine wl_nil ?_
            refine at_keep (Keep.cons 4 rfl (Keep.cons 5 rfl (Keep.cons 6 rfl (Keep.cons 8 rfl (Keep.cons 12 rfl (Keep.cons 13 rfl (Keep.cons 14 rfl (Keep.cons 15 rfl (Keep.cons 19 rfl (Keep.cons 27 rfl Keep.nil)))))))))) ?_
            refine at_inBlock ?_
            refine at_region ?_
            refine wl_read rfl rfl rfl (yl_add rfl rfl rfl (w64 (by omega) (by omega))) ?_
            refine wl_read rfl rfl rfl (yl_move rfl rfl) ?_
            refine wl_nil ?_
            refine at_keep (Keep.cons 4 rfl (Keep.cons 5 rfl (Keep.cons 6 rfl (Keep.cons 8 rfl (Keep.cons 12 rfl (Keep.cons 13 rfl (Keep.cons 14 rfl (Keep.cons 15 rfl (Keep.cons 19 rfl (Keep.cons 27 rfl Keep.nil)))))))))) ?_
            exact at_keep (L' := (fun A1 c1 k => [(4, .slice A1 (runs s k).length c1), (5, .int .i64 (fl s k).1), (6, .int .i64 (fl s k).2), (12, .slice A s.length c), (13, .int .i64 (s.length : Int)), (14, .int .i64 (k : Int))]) A2 c2 (k + 1)) (Keep.consEq 4 rfl rfl (Keep.consEq 5 rfl (by rw [hfl]) (Keep.consEq 6 rfl (by rw [hfl]) (Keep.consEq 12 rfl rfl (Keep.consEq 13 rfl rfl (Keep.consEq 14 rfl rfl Keep.nil)))))) (ih A2 c2 (k + 1) (by omega) (by omega))
        · intro h8_1
          refine wl_nil ?_
          refine at_keep (Keep.cons 4 rfl (Keep.cons 5 rfl (Keep.cons 6 rfl (Keep.cons 8 rfl (Keep.cons 12 rfl (Keep.cons 13 rfl (Keep.cons 14 rfl (Keep.cons 15 rfl (Keep.cons 19 rfl (Keep.cons 27 rfl Keep.nil)))))))))) ?_
          refine at_false rfl ?_
          refine at_skip ?_
          refine at_region ?_
          refine wl_read rfl rfl rfl (yl_fieldB rfl rfl Try.underlying37 rfl (by kernel_rfl) rfl) ?_
          refine wl_read rfl rfl rfl (yl_load rfl rfl Try.underlying3 rfl (CellAt.bk 0 rfl rfl)) ?_
          refine wl_read rfl rfl rfl (yl_move rfl rfl) ?_
          refine wl_read rfl rfl rfl (yl_max rfl rfl rfl) ?_
          refine wl_read rfl rfl rfl (yl_assign rfl rfl) ?_
          refine wl_nil ?_
          refine at_keep (Keep.cons 4 rfl (Keep.cons 5 rfl (Keep.cons 6 rfl (Keep.cons 8 rfl (Keep.cons 12 rfl (Keep.cons 13 rfl (Keep.cons 14 rfl (Keep.cons 15 rfl (Keep.cons 19 rfl (Keep.cons 27 rfl Keep.nil)))))))))) ?_
          refine at_inBlock ?_
          have hfl : fl s (k + 1) = ((fl s k).1, max (at_ s k).amount (fl s k).1) := by simp only [fl, h11_1, h8_1, ↓reduceIte, Bool.false_eq_true]
          refine at_region ?_
          refine wl_read rfl rfl rfl (yl_move rfl rfl) ?_
          refine wl_read rfl rfl rfl (yl_fieldB rfl rfl Try.underlying37 rfl (by kernel_rfl) rfl) ?_
          refine wl_read rfl rfl rfl (yl_load rfl rfl Try.underlying3 rfl (CellAt.bk 0 rfl rfl)) ?_
          refine wl_read rfl rfl rfl (yl_move rfl rfl) ?_
          refine wl_read rfl rfl rfl (yl_fieldB rfl rfl Try.underlying37 rfl (by kernel_rfl) rfl) ?_
          refine wl_read rfl rfl rfl (yl_boolF (yl_load rfl rfl Try.underlying4 rfl (CellAt.bk 0 rfl rfl)) h11_1) ?_
          refine wl_read rfl rfl rfl (yl_notF rfl rfl) ?_
          refine wl_read rfl rfl rfl (yl_move rfl rfl) ?_
          refine wl_read rfl rfl rfl (yl_move rfl rfl) ?_
          refine wl_read rfl rfl rfl (yl_fieldB rfl rfl Try.underlying37 rfl (by kernel_rfl) rfl) ?_
          refine wl_read rfl rfl rfl (yl_load rfl rfl Try.underlying3 rfl (CellAt.bk 0 rfl rfl)) ?_
          refine wl_split rfl rfl rfl (yp_gtr rfl rfl rfl) ?_ ?_
          · intro h13_11
            refine wl_read rfl rfl rfl (yl_pickT rfl rfl rfl) ?_
            have e : rw_ s k = (⟨(at_ s k).month, max (at_ s k).amount (fl s k).1, true⟩ : Running) := by simp only [rw_, hfl]; simp [h11_1, h13_11]
            refine wl_read rfl rfl rfl (yl_build (cs := Enc.cells (⟨(at_ s k).month, max (at_ s k).amount (fl s k).1, true⟩ : Running)) rfl rfl (fun _ => by kernel_rfl)) ?_
            refine wl_eff rfl rfl rfl (ef_buildSlice (e := 32) [(⟨(at_ s k).month, max (at_ s k).amount (fl s k).1, true⟩ : Running)] rfl rfl (fun _ => by kernel_rfl) rfl rfl) ?_
            rintro _ _ ⟨T13_14, rfl, rfl⟩
            refine wl_eff rfl rfl rfl (ef_append (ys := [(⟨(at_ s k).month, max (at_ s k).amount (fl s k).1, true⟩ : Running)]) 2 rfl rfl rfl rfl (Rd.of_sl 0 rfl) Try.underlying25 info32 rfl rfl (by simp only [List.length_singleton, maxLen]; omega) (by simp only [List.length_singleton]; omega)) ?_
            rintro _ _ ⟨A2, c2, rfl, hH⟩
            simp only [List.set_cons_succ, List.set_cons_zero] at hH; subst hH
            rw [← e, ← hsucc]
            refine wl_heap (fun _ hw => hw.tail.tail) ?_
            refine wl_read rfl rfl rfl (yl_assign rfl rfl) ?_
            refine wl_nil ?_
            refine at_keep (Keep.cons 4 rfl (Keep.cons 5 rfl (Keep.cons 6 rfl (Keep.cons 8 rfl (Keep.cons 12 rfl (Keep.cons 13 rfl (Keep.cons 14 rfl (Keep.cons 15 rfl (Keep.cons 19 rfl (Keep.cons 27 rfl Keep.nil)))))))))) ?_
            refine at_inBlock ?_
            refine at_region ?_
            refine wl_read rfl rfl rfl (yl_add rfl rfl rfl (w64 (by omega) (by omega))) ?_
            refine wl_read rfl rfl rfl (yl_move rfl rfl) ?_
            refine wl_nil ?_
            refine at_keep (Keep.cons 4 rfl (Keep.cons 5 rfl (Keep.cons 6 rfl (Keep.cons 8 rfl (Keep.cons 12 rfl (Keep.cons 13 rfl (Keep.cons 14 rfl (Keep.cons 15 rfl (Keep.cons 19 rfl (Keep.cons 27 rfl Keep.nil)))))))))) ?_
            exact at_keep (L' := (fun A1 c1 k => [(4, .slice A1 (runs s k).length c1), (5, .int .i64 (fl s k).1), (6, .int .i64 (fl s k).2), (12, .slice A s.length c), (13, .int .i64 (s.length : Int)), (14, .int .i64 (k : Int))]) A2 c2 (k + 1)) (Keep.consEq 4 rfl rfl (Keep.consEq 5 rfl (by rw [hfl]) (Keep.consEq 6 rfl (by rw [hfl]) (Keep.consEq 12 rfl rfl (Keep.consEq 13 rfl rfl (Keep.consEq 14 rfl rfl Keep.nil)))))) (ih A2 c2 (k + 1) (by omega) (by omega))
          · intro h13_11
            refine wl_read rfl rfl rfl (yl_pickT rfl rfl rfl) ?_
            have e : rw_ s k = (⟨(at_ s k).month, max (at_ s k).amount (fl s k).1, false⟩ : Running) := by simp only [rw_, hfl]; simp [h11_1, h13_11]
            refine wl_read rfl rfl rfl (yl_build (cs := Enc.cells (⟨(at_ s k).month, max (at_ s k).amount (fl s k).1, false⟩ : Running)) rfl rfl (fun _ => by kernel_rfl)) ?_
            refine wl_eff rfl rfl rfl (ef_buildSlice (e := 32) [(⟨(at_ s k).month, max (at_ s k).amount (fl s k).1, false⟩ : Running)] rfl rfl (fun _ => by kernel_rfl) rfl rfl) ?_
            rintro _ _ ⟨T13_14, rfl, rfl⟩
            refine wl_eff rfl rfl rfl (ef_append (ys := [(⟨(at_ s k).month, max (at_ s k).amount (fl s k).1, false⟩ : Running)]) 2 rfl rfl rfl rfl (Rd.of_sl 0 rfl) Try.underlying25 info32 rfl rfl (by simp only [List.length_singleton, maxLen]; omega) (by simp only [List.length_singleton]; omega)) ?_
            rintro _ _ ⟨A2, c2, rfl, hH⟩
            simp only [List.set_cons_succ, List.set_cons_zero] at hH; subst hH
            rw [← e, ← hsucc]
            refine wl_heap (fun _ hw => hw.tail.tail) ?_
            refine wl_read rfl rfl rfl (yl_assign rfl rfl) ?_
            refine wl_nil ?_
            refine at_keep (Keep.cons 4 rfl (Keep.cons 5 rfl (Keep.cons 6 rfl (Keep.cons 8 rfl (Keep.cons 12 rfl (Keep.cons 13 rfl (Keep.cons 14 rfl (Keep.cons 15 rfl (Keep.cons 19 rfl (Keep.cons 27 rfl Keep.nil)))))))))) ?_
            refine at_inBlock ?_
            refine at_region ?_
            refine wl_read rfl rfl rfl (yl_add rfl rfl rfl (w64 (by omega) (by omega))) ?_
            refine wl_read rfl rfl rfl (yl_move rfl rfl) ?_
            refine wl_nil ?_
            refine at_keep (Keep.cons 4 rfl (Keep.cons 5 rfl (Keep.cons 6 rfl (Keep.cons 8 rfl (Keep.cons 12 rfl (Keep.cons 13 rfl (Keep.cons 14 rfl (Keep.cons 15 rfl (Keep.cons 19 rfl (Keep.cons 27 rfl Keep.nil)))))))))) ?_
            exact at_keep (L' := (fun A1 c1 k => [(4, .slice A1 (runs s k).length c1), (5, .int .i64 (fl s k).1), (6, .int .i64 (fl s k).2), (12, .slice A s.length c), (13, .int .i64 (s.length : Int)), (14, .int .i64 (k : Int))]) A2 c2 (k + 1)) (Keep.consEq 4 rfl rfl (Keep.consEq 5 rfl (by rw [hfl]) (Keep.consEq 6 rfl (by rw [hfl]) (Keep.consEq 12 rfl rfl (Keep.consEq 13 rfl rfl (Keep.consEq 14 rfl rfl Keep.nil)))))) (ih A2 c2 (k + 1) (by omega) (by omega))
    · intro h6_0
      refine wl_nil ?_
      refine at_keep (Keep.cons 4 rfl (Keep.cons 5 rfl (Keep.cons 6 rfl (Keep.cons 12 rfl (Keep.cons 13 rfl (Keep.cons 14 rfl (Keep.cons 15 rfl Keep.nil))))))) ?_
      refine at_seq ?_
      refine at_false rfl ?_
      refine at_exit rfl ?_
      refine at_seq ?_
      refine at_region ?_
      refine wl_read rfl rfl rfl (yl_move rfl rfl) ?_
      refine wl_read rfl rfl rfl (yl_assign rfl rfl) ?_
      refine wl_read rfl rfl rfl (yl_assign rfl rfl) ?_
      refine wl_nil ?_
      refine at_keep (Keep.cons 2 rfl (Keep.cons 3 rfl (Keep.cons 4 rfl (Keep.cons 5 rfl (Keep.cons 6 rfl (Keep.cons 12 rfl (Keep.cons 13 rfl (Keep.cons 14 rfl (Keep.cons 15 rfl Keep.nil))))))))) ?_
      refine at_ret Try.func15 (res2 rfl rfl rfl) ?_
      have e : k = s.length := by omega
      exact .inl ⟨hval, A1, c1, by unfold run; rw [← e], by unfold run; rw [← e]⟩
theorem vmonth_fn (m : Int) (b : World) (H : List Asr) : Fn Try.prog 26 [.int .i64 m] b H (fun v H' => H = H' ∧ ∃ t, v = .bool t ∧ (t = true ↔ 0 ≤ m ∧ m ≤ 2399)) := by
  refine fn_of_at (by kernel_rfl) Try.func26 rfl Try.ntmps26 rfl rfl ?_
  refine at_seq ?_
  refine at_region ?_
  refine wl_read rfl rfl rfl (yl_assign rfl rfl) ?_
  refine wl_nil ?_
  refine at_keep (Keep.cons 0 rfl (Keep.cons 2 rfl Keep.nil)) ?_
  refine at_seq ?_
  refine at_region ?_
  refine wl_read rfl rfl rfl (yl_move rfl rfl) ?_
  refine wl_split rfl rfl rfl (yp_geq rfl rfl rfl) ?_ ?_
  · intro h1_1
    refine wl_read rfl rfl rfl (yl_move rfl rfl) ?_
    refine wl_read rfl rfl rfl (yl_move rfl rfl) ?_
    refine wl_split rfl rfl rfl (yp_leq rfl rfl rfl) ?_ ?_
    · intro h1_4
      refine wl_read rfl rfl rfl (yl_pickT rfl rfl rfl) ?_
      refine wl_read rfl rfl rfl (yl_assign rfl rfl) ?_
      refine wl_nil ?_
      refine at_keep (Keep.cons 0 rfl (Keep.cons 2 rfl Keep.nil)) ?_
      refine at_ret Try.func26 (res1 rfl rfl) ?_
      exact ⟨rfl, true, rfl, by simp; omega⟩
    · intro h1_4
      refine wl_read rfl rfl rfl (yl_pickT rfl rfl rfl) ?_
      refine wl_read rfl rfl rfl (yl_assign rfl rfl) ?_
      refine wl_nil ?_
      refine at_keep (Keep.cons 0 rfl (Keep.cons 2 rfl Keep.nil)) ?_
      refine at_ret Try.func26 (res1 rfl rfl) ?_
      exact ⟨rfl, false, rfl, by simp; omega⟩
  · intro h1_1
    refine wl_read rfl rfl rfl (yl_move rfl rfl) ?_
    refine wl_skip rfl rfl rfl ?_
    refine wl_skip rfl rfl rfl ?_
    refine wl_read rfl rfl rfl (yl_pickF rfl rfl rfl) ?_
    refine wl_read rfl rfl rfl (yl_assign rfl rfl) ?_
    refine wl_nil ?_
    refine at_keep (Keep.cons 0 rfl (Keep.cons 2 rfl Keep.nil)) ?_
    refine at_ret Try.func26 (res1 rfl rfl) ?_
    exact ⟨rfl, false, rfl, by simp; omega⟩
theorem refrun_fn (s : List Stage) (A : Option Addr) (c : Nat) (b : World) (H : List Asr) (hR : Rd H A s) (hl : s.length ≤ 140737488355328) :
    Fn Try.prog 16 [.slice A s.length c] b H (fun v H' => (Valid s ∧ ∃ A' c', v = .tuple #[.slice A' (run s).length c', .int .i64 0] ∧ H' = Sl A' c' 32 (run s) :: H) ∨ (¬ Valid s ∧ v = .tuple #[.slice none 0 0, .int .i64 1] ∧ H = H')) := by
  refine fn_of_at (by kernel_rfl) Try.func16 rfl Try.ntmps16 rfl rfl ?_
  refine at_seq ?_
  refine at_region ?_
  refine wl_read rfl rfl rfl (yl_assign rfl rfl) ?_
  refine wl_read rfl rfl rfl (yl_assign rfl rfl) ?_
  refine wl_nil ?_
  refine at_keep (Keep.cons 0 rfl (Keep.cons 2 rfl (Keep.cons 3 rfl Keep.nil))) ?_
  refine at_seq ?_
  refine at_seq ?_
  refine at_region ?_
  refine wl_read rfl rfl rfl (yl_move rfl rfl) ?_
  refine wl_read rfl rfl rfl (yl_len rfl rfl Try.underlying23) ?_
  refine wl_split rfl rfl rfl (yp_gtr rfl rfl rfl) ?_ ?_
  · intro h1_2
    refine wl_nil ?_
    refine at_keep (Keep.cons 0 rfl (Keep.cons 2 rfl (Keep.cons 3 rfl (Keep.cons 12 rfl Keep.nil)))) ?_
    refine at_true rfl ?_
    refine at_seq ?_
    refine at_region ?_
    refine wl_read rfl rfl rfl (yl_assign rfl rfl) ?_
    refine wl_read rfl rfl rfl (yl_assign rfl rfl) ?_
    refine wl_nil ?_
    refine at_keep (Keep.cons 0 rfl (Keep.cons 2 rfl (Keep.cons 3 rfl (Keep.cons 12 rfl Keep.nil)))) ?_
    refine at_ret Try.func16 (res2 rfl rfl rfl) ?_
    exact .inr ⟨by simp [Valid]; omega, rfl, rfl⟩
  · intro h1_2
    refine wl_nil ?_
    refine at_keep (Keep.cons 0 rfl (Keep.cons 2 rfl (Keep.cons 3 rfl (Keep.cons 12 rfl Keep.nil)))) ?_
    refine at_false rfl ?_
    refine at_skip ?_
    refine at_seq ?_
    refine at_seq ?_
    refine at_region ?_
    refine wl_read rfl rfl rfl (yl_assign rfl rfl) ?_
    refine wl_nil ?_
    refine at_keep (Keep.cons 0 rfl (Keep.cons 2 rfl (Keep.cons 3 rfl (Keep.cons 4 rfl (Keep.cons 12 rfl Keep.nil))))) ?_
    refine at_block ?_
    refine at_keep (L' := (fun k => [(0, .slice A s.length c), (4, .int .i64 (k : Int))]) 0) (Keep.consEq 0 rfl rfl (Keep.consEq 4 rfl rfl Keep.nil)) ?_
    refine at_loop1 (fun k => k ≤ s.length ∧ ∀ i, i < k → okSt s i) (fun k => [(0, .slice A s.length c), (4, .int .i64 (k : Int))]) (fun k => H) (fun k => s.length - k) 0 ⟨by omega, fun i hi => absurd hi (by omega)⟩ ?_
    intro k hI ih
    obtain ⟨hI1, hI2⟩ := hI
    refine at_seq ?_
    refine at_seq ?_
    refine at_region ?_
    refine wl_read rfl rfl rfl (yl_move rfl rfl) ?_
    refine wl_read rfl rfl rfl (yl_move rfl rfl) ?_
    refine wl_read rfl rfl rfl (yl_len rfl rfl Try.underlying23) ?_
    refine wl_split rfl rfl rfl (yp_lss rfl rfl rfl) ?_ ?_
    · intro h4_3
      refine wl_nil ?_
      refine at_keep (Keep.cons 0 rfl (Keep.cons 4 rfl (Keep.cons 16 rfl Keep.nil))) ?_
      refine at_true rfl ?_
      refine at_skip ?_
      refine at_seq ?_
      refine at_block ?_
      refine at_seq ?_
      have hk1 : k < s.length := by omega
      refine at_draw0 (.fl 0 (.fl 1 (.fl 2 (.fl 3 (.fl 4 (.ef 5 (.fl 6 (.fl 7 (.fl 8 (.fl 9 (.fl 10 (.fl 11 (.fl 12 (.fl 13 (.fl 14 (.fl 15 (.fl 16 (.fl 17 (.fl 18 (.fl 19 (.fl 20 (.fl 21 (.fl 22 (.fl 23 (.fl 24 (.fl 25 (.fl 26 (.fl 27 (.fl 28 (.fl 29 (.fl 30 (.fl 31 (.fl 32 (.fl 33 (.fl 34 (.fl 35 (.fl 36 (.fl 37 (.fl 38 (.fl 39 (.fl 40 (.fl 41 .nil)))))))))))))))))))))))))))))))))))))))))) (by kernel_rfl) (by kernel_rfl) ?_
      refine wt_read rfl rfl rfl rfl (yl_move rfl rfl) ?_
      refine wt_read rfl rfl rfl rfl (yl_move rfl rfl) ?_
      refine wt_read rfl rfl rfl rfl (yl_index rfl rfl rfl hR (at_some hk1) rfl rfl Try.underlying23 (by kernel_rfl) rfl) ?_
      refine wt_read rfl rfl rfl rfl (yl_field rfl rfl Try.underlying37 rfl (by kernel_rfl) rfl) ?_
      refine wt_read rfl rfl rfl rfl (yl_load rfl rfl Try.underlying3 rfl (hR.cell2 (at_some hk1) rfl)) ?_
      refine wt_call rfl rfl rfl rfl (en_call rfl rfl) (vmonth_fn _ _ _) ?_
      rintro _ _ ⟨rfl, t, rfl, hv⟩
      refine ⟨⟨[], rfl⟩, ?_⟩
      cases t
      ·
        simp only [Bool.false_eq_true, false_iff, true_iff] at hv
        refine wt_read rfl rfl rfl rfl (yl_notF rfl rfl) ?_
        refine wt_read rfl rfl rfl rfl (yl_move rfl rfl) ?_
        refine wt_skip rfl rfl rfl rfl ?_
        refine wt_skip rfl rfl rfl rfl ?_
        refine wt_skip rfl rfl rfl rfl ?_
        refine wt_skip rfl rfl rfl rfl ?_
        refine wt_skip rfl rfl rfl rfl ?_
        refine wt_skip rfl rfl rfl rfl ?_
        refine wt_skip rfl rfl rfl rfl ?_
        refine wt_skip rfl rfl rfl rfl ?_
        refine wt_skip rfl rfl rfl rfl ?_
        refine wt_skip rfl rfl rfl rfl ?_
        refine wt_skip rfl rfl rfl rfl ?_
        refine wt_skip rfl rfl rfl rfl ?_
        refine wt_skip rfl rfl rfl rfl ?_
        refine wt_skip rfl rfl rfl rfl ?_
        refine wt_skip rfl rfl rfl rfl ?_
        refine wt_skip rfl rfl rfl rfl ?_
        refine wt_skip rfl rfl rfl rfl ?_
        refine wt_read rfl rfl rfl rfl (yl_pickT rfl rfl rfl) ?_
        refine wt_read rfl rfl rfl rfl (yl_move rfl rfl) ?_
        refine wt_skip rfl rfl rfl rfl ?_
        refine wt_skip rfl rfl rfl rfl ?_
        refine wt_skip rfl rfl rfl rfl ?_
        refine wt_skip rfl rfl rfl rfl ?_
        refine wt_skip rfl rfl rfl rfl ?_
        refine wt_skip rfl rfl rfl rfl ?_
        refine wt_read rfl rfl rfl rfl (yl_pickT rfl rfl rfl) ?_
        refine wt_read rfl rfl rfl rfl (yl_move rfl rfl) ?_
        refine wt_skip rfl rfl rfl rfl ?_
        refine wt_skip rfl rfl rfl rfl ?_
        refine wt_skip rfl rfl rfl rfl ?_
        refine wt_skip rfl rfl rfl rfl ?_
        refine wt_skip rfl rfl rfl rfl ?_
        refine wt_skip rfl rfl rfl rfl ?_
        refine wt_read rfl rfl rfl rfl (yl_pickT rfl rfl rfl) ?_
        refine wt_nil ?_
        refine at_keep (Keep.cons 0 rfl (Keep.cons 4 rfl (Keep.cons 16 rfl (Keep.cons 60 rfl Keep.nil)))) ?_
        refine at_true rfl ?_
        refine at_seq ?_
        refine at_region ?_
        refine wl_read rfl rfl rfl (yl_assign rfl rfl) ?_
        refine wl_read rfl rfl rfl (yl_assign rfl rfl) ?_
        refine wl_nil ?_
        refine at_keep (Keep.cons 0 rfl (Keep.cons 2 rfl (Keep.cons 3 rfl (Keep.cons 4 rfl (Keep.cons 16 rfl (Keep.cons 60 rfl Keep.nil)))))) ?_
        refine at_ret Try.func16 (res2 rfl rfl rfl) ?_
        exact .inr ⟨not_valid hk1 (by unfold okSt; omega), rfl, rfl⟩
      ·
        simp only [Bool.false_eq_true, false_iff, true_iff] at hv
        refine wt_read rfl rfl rfl rfl (yl_notT rfl rfl) ?_
        refine wt_read rfl rfl rfl rfl (yl_move rfl rfl) ?_
        refine wt_read rfl rfl rfl rfl (yl_move rfl rfl) ?_
        refine wt_split rfl rfl rfl rfl (yp_gtr rfl rfl rfl) ?_ ?_
        · intro h6_9
          refine wt_read rfl rfl rfl rfl (yl_move rfl rfl) ?_
          refine wt_read rfl rfl rfl rfl (yl_move rfl rfl) ?_
          refine wt_read rfl rfl rfl rfl (yl_move rfl rfl) ?_
          refine wt_read rfl rfl rfl rfl (yl_index rfl rfl rfl hR (at_some hk1) rfl rfl Try.underlying23 (by kernel_rfl) rfl) ?_
          refine wt_read rfl rfl rfl rfl (yl_field rfl rfl Try.underlying37 rfl (by kernel_rfl) rfl) ?_
          refine wt_read rfl rfl rfl rfl (yl_load rfl rfl Try.underlying3 rfl (hR.cell2 (at_some hk1) rfl)) ?_
          refine wt_read rfl rfl rfl rfl (yl_move rfl rfl) ?_
          refine wt_read rfl rfl rfl rfl (yl_move rfl rfl) ?_
          refine wt_read rfl rfl rfl rfl (yl_sub rfl rfl rfl (w64 (by omega) (by omega))) ?_
          refine wt_read rfl rfl rfl rfl (yl_index rfl rfl rfl hR (at_some (show k - 1 < s.length by omega)) (by omega) rfl Try.underlying23 (by kernel_rfl) rfl) ?_
          refine wt_read rfl rfl rfl rfl (yl_field rfl rfl Try.underlying37 rfl (by kernel_rfl) rfl) ?_
          refine wt_read rfl rfl rfl rfl (yl_load rfl rfl Try.underlying3 rfl (hR.cell2 (at_some (show k - 1 < s.length by omega)) rfl)) ?_
          have hp : okSt s (k - 1) := hI2 (k - 1) (by omega)
          unfold okSt at hp
          refine wt_read rfl rfl rfl rfl (yl_add rfl rfl rfl (w64 (by omega) (by omega))) ?_
          refine wt_split rfl rfl rfl rfl (yp_neq rfl rfl rfl) ?_ ?_
          · intro h6_23
            refine wt_read rfl rfl rfl rfl (yl_pickT rfl rfl rfl) ?_
            refine wt_read rfl rfl rfl rfl (yl_pickF rfl rfl rfl) ?_
            refine wt_read rfl rfl rfl rfl (yl_move rfl rfl) ?_
            refine wt_skip rfl rfl rfl rfl ?_
            refine wt_skip rfl rfl rfl rfl ?_
            refine wt_skip rfl rfl rfl rfl ?_
            refine wt_skip rfl rfl rfl rfl ?_
            refine wt_skip rfl rfl rfl rfl ?_
            refine wt_skip rfl rfl rfl rfl ?_
            refine wt_read rfl rfl rfl rfl (yl_pickT rfl rfl rfl) ?_
            refine wt_read rfl rfl rfl rfl (yl_move rfl rfl) ?_
            refine wt_skip rfl rfl rfl rfl ?_
            refine wt_skip rfl rfl rfl rfl ?_
            refine wt_skip rfl rfl rfl rfl ?_
            refine wt_skip rfl rfl rfl rfl ?_
            refine wt_skip rfl rfl rfl rfl ?_
            refine wt_skip rfl rfl rfl rfl ?_
            refine wt_read rfl rfl rfl rfl (yl_pickT rfl rfl rfl) ?_
            refine wt_nil ?_
            refine at_keep (Keep.cons 0 rfl (Keep.cons 4 rfl (Keep.cons 16 rfl (Keep.cons 60 rfl Keep.nil)))) ?_
            refine at_true rfl ?_
            refine at_seq ?_
            refine at_region ?_
            refine wl_read rfl rfl rfl (yl_assign rfl rfl) ?_
            refine wl_read rfl rfl rfl (yl_assign rfl rfl) ?_
            refine wl_nil ?_
            refine at_keep (Keep.cons 0 rfl (Keep.cons 2 rfl (Keep.cons 3 rfl (Keep.cons 4 rfl (Keep.cons 16 rfl (Keep.cons 60 rfl Keep.nil)))))) ?_
            refine at_ret Try.func16 (res2 rfl rfl rfl) ?_
            exact .inr ⟨not_valid hk1 (by unfold okSt; omega), rfl, rfl⟩
          · intro h6_23
            refine wt_read rfl rfl rfl rfl (yl_pickT rfl rfl rfl) ?_
            refine wt_read rfl rfl rfl rfl (yl_pickF rfl rfl rfl) ?_
            refine wt_read rfl rfl rfl rfl (yl_move rfl rfl) ?_
            refine wt_read rfl rfl rfl rfl (yl_move rfl rfl) ?_
            refine wt_read rfl rfl rfl rfl (yl_move rfl rfl) ?_
            refine wt_read rfl rfl rfl rfl (yl_index rfl rfl rfl hR (at_some hk1) rfl rfl Try.underlying23 (by kernel_rfl) rfl) ?_
            refine wt_read rfl rfl rfl rfl (yl_field rfl rfl Try.underlying37 rfl (by kernel_rfl) rfl) ?_
            refine wt_read rfl rfl rfl rfl (yl_load rfl rfl Try.underlying3 rfl (hR.cell2 (at_some hk1) rfl)) ?_
            refine wt_split rfl rfl rfl rfl (yp_lss rfl rfl rfl) ?_ ?_
            · intro h6_32
              refine wt_read rfl rfl rfl rfl (yl_pickF rfl rfl rfl) ?_
              refine wt_read rfl rfl rfl rfl (yl_move rfl rfl) ?_
              refine wt_skip rfl rfl rfl rfl ?_
              refine wt_skip rfl rfl rfl rfl ?_
              refine wt_skip rfl rfl rfl rfl ?_
              refine wt_skip rfl rfl rfl rfl ?_
              refine wt_skip rfl rfl rfl rfl ?_
              refine wt_skip rfl rfl rfl rfl ?_
              refine wt_read rfl rfl rfl rfl (yl_pickT rfl rfl rfl) ?_
              refine wt_nil ?_
              refine at_keep (Keep.cons 0 rfl (Keep.cons 4 rfl (Keep.cons 16 rfl (Keep.cons 60 rfl Keep.nil)))) ?_
              refine at_true rfl ?_
              refine at_seq ?_
              refine at_region ?_
              refine wl_read rfl rfl rfl (yl_assign rfl rfl) ?_
              refine wl_read rfl rfl rfl (yl_assign rfl rfl) ?_
              refine wl_nil ?_
              refine at_keep (Keep.cons 0 rfl (Keep.cons 2 rfl (Keep.cons 3 rfl (Keep.cons 4 rfl (Keep.cons 16 rfl (Keep.cons 60 rfl Keep.nil)))))) ?_
              refine at_ret Try.func16 (res2 rfl rfl rfl) ?_
              exact .inr ⟨not_valid hk1 (by unfold okSt; omega), rfl, rfl⟩
            · intro h6_32
              refine wt_read rfl rfl rfl rfl (yl_pickF rfl rfl rfl) ?_
              refine wt_read rfl rfl rfl rfl (yl_move rfl rfl) ?_
              refine wt_read rfl rfl rfl rfl (yl_move rfl rfl) ?_
              refine wt_read rfl rfl rfl rfl (yl_move rfl rfl) ?_
              refine wt_read rfl rfl rfl rfl (yl_index rfl rfl rfl hR (at_some hk1) rfl rfl Try.underlying23 (by kernel_rfl) rfl) ?_
              refine wt_read rfl rfl rfl rfl (yl_field rfl rfl Try.underlying37 rfl (by kernel_rfl) rfl) ?_
              refine wt_read rfl rfl rfl rfl (yl_load rfl rfl Try.underlying3 rfl (hR.cell2 (at_some hk1) rfl)) ?_
              refine wt_split rfl rfl rfl rfl (yp_gtr rfl rfl rfl) ?_ ?_
              · intro h6_40
                refine wt_read rfl rfl rfl rfl (yl_pickF rfl rfl rfl) ?_
                refine wt_nil ?_
                refine at_keep (Keep.cons 0 rfl (Keep.cons 4 rfl (Keep.cons 16 rfl (Keep.cons 60 rfl Keep.nil)))) ?_
                refine at_true rfl ?_
                refine at_seq ?_
                refine at_region ?_
                refine wl_read rfl rfl rfl (yl_assign rfl rfl) ?_
                refine wl_read rfl rfl rfl (yl_assign rfl rfl) ?_
                refine wl_nil ?_
                refine at_keep (Keep.cons 0 rfl (Keep.cons 2 rfl (Keep.cons 3 rfl (Keep.cons 4 rfl (Keep.cons 16 rfl (Keep.cons 60 rfl Keep.nil)))))) ?_
                refine at_ret Try.func16 (res2 rfl rfl rfl) ?_
                exact .inr ⟨not_valid hk1 (by unfold okSt; omega), rfl, rfl⟩
              · intro h6_40
                refine wt_read rfl rfl rfl rfl (yl_pickF rfl rfl rfl) ?_
                refine wt_nil ?_
                refine at_keep (Keep.cons 0 rfl (Keep.cons 4 rfl (Keep.cons 16 rfl (Keep.cons 60 rfl Keep.nil)))) ?_
                refine at_false rfl ?_
                refine at_skip ?_
                refine at_inBlock ?_
                refine at_region ?_
                refine wl_read rfl rfl rfl (yl_move rfl rfl) ?_
                refine wl_read rfl rfl rfl (yl_add rfl rfl rfl (w64 (by omega) (by omega))) ?_
                refine wl_read rfl rfl rfl (yl_assign rfl rfl) ?_
                refine wl_nil ?_
                refine at_keep (Keep.cons 0 rfl (Keep.cons 4 rfl (Keep.cons 16 rfl (Keep.cons 60 rfl Keep.nil)))) ?_
                exact at_keep (L' := (fun k => [(0, .slice A s.length c), (4, .int .i64 (k : Int))]) (k + 1)) (Keep.consEq 0 rfl rfl (Keep.consEq 4 rfl rfl Keep.nil)) (ih (k + 1) ⟨by omega, fun i hi => by
      rcases Nat.lt_or_ge i k with h | h
      · exact hI2 i h
      · have e : i = k := by omega
        subst e; unfold okSt; omega⟩ (by omega))
        · intro h6_9
          refine wt_read rfl rfl rfl rfl (yl_move rfl rfl) ?_
          refine wt_skip rfl rfl rfl rfl ?_
          refine wt_skip rfl rfl rfl rfl ?_
          refine wt_skip rfl rfl rfl rfl ?_
          refine wt_skip rfl rfl rfl rfl ?_
          refine wt_skip rfl rfl rfl rfl ?_
          refine wt_skip rfl rfl rfl rfl ?_
          refine wt_skip rfl rfl rfl rfl ?_
          refine wt_skip rfl rfl rfl rfl ?_
          refine wt_skip rfl rfl rfl rfl ?_
          refine wt_skip rfl rfl rfl rfl ?_
          refine wt_skip rfl rfl rfl rfl ?_
          refine wt_skip rfl rfl rfl rfl ?_
          refine wt_skip rfl rfl rfl rfl ?_
          refine wt_read rfl rfl rfl rfl (yl_pickF rfl rfl rfl) ?_
          refine wt_read rfl rfl rfl rfl (yl_pickF rfl rfl rfl) ?_
          refine wt_read rfl rfl rfl rfl (yl_move rfl rfl) ?_
          refine wt_read rfl rfl rfl rfl (yl_move rfl rfl) ?_
          refine wt_read rfl rfl rfl rfl (yl_move rfl rfl) ?_
          refine wt_read rfl rfl rfl rfl (yl_index rfl rfl rfl hR (at_some hk1) rfl rfl Try.underlying23 (by kernel_rfl) rfl) ?_
          refine wt_read rfl rfl rfl rfl (yl_field rfl rfl Try.underlying37 rfl (by kernel_rfl) rfl) ?_
          refine wt_read rfl rfl rfl rfl (yl_load rfl rfl Try.underlying3 rfl (hR.cell2 (at_some hk1) rfl)) ?_
          refine wt_split rfl rfl rfl rfl (yp_lss rfl rfl rfl) ?_ ?_
          · intro h6_32
            refine wt_read rfl rfl rfl rfl (yl_pickF rfl rfl rfl) ?_
            refine wt_read rfl rfl rfl rfl (yl_move rfl rfl) ?_
            refine wt_skip rfl rfl rfl rfl ?_
            refine wt_skip rfl rfl rfl rfl ?_
            refine wt_skip rfl rfl rfl rfl ?_
            refine wt_skip rfl rfl rfl rfl ?_
            refine wt_skip rfl rfl rfl rfl ?_
            refine wt_skip rfl rfl rfl rfl ?_
            refine wt_read rfl rfl rfl rfl (yl_pickT rfl rfl rfl) ?_
            refine wt_nil ?_
            refine at_keep (Keep.cons 0 rfl (Keep.cons 4 rfl (Keep.cons 16 rfl (Keep.cons 60 rfl Keep.nil)))) ?_
            refine at_true rfl ?_
            refine at_seq ?_
            refine at_region ?_
            refine wl_read rfl rfl rfl (yl_assign rfl rfl) ?_
            refine wl_read rfl rfl rfl (yl_assign rfl rfl) ?_
            refine wl_nil ?_
            refine at_keep (Keep.cons 0 rfl (Keep.cons 2 rfl (Keep.cons 3 rfl (Keep.cons 4 rfl (Keep.cons 16 rfl (Keep.cons 60 rfl Keep.nil)))))) ?_
            refine at_ret Try.func16 (res2 rfl rfl rfl) ?_
            exact .inr ⟨not_valid hk1 (by unfold okSt; omega), rfl, rfl⟩
          · intro h6_32
            refine wt_read rfl rfl rfl rfl (yl_pickF rfl rfl rfl) ?_
            refine wt_read rfl rfl rfl rfl (yl_move rfl rfl) ?_
            refine wt_read rfl rfl rfl rfl (yl_move rfl rfl) ?_
            refine wt_read rfl rfl rfl rfl (yl_move rfl rfl) ?_
            refine wt_read rfl rfl rfl rfl (yl_index rfl rfl rfl hR (at_some hk1) rfl rfl Try.underlying23 (by kernel_rfl) rfl) ?_
            refine wt_read rfl rfl rfl rfl (yl_field rfl rfl Try.underlying37 rfl (by kernel_rfl) rfl) ?_
            refine wt_read rfl rfl rfl rfl (yl_load rfl rfl Try.underlying3 rfl (hR.cell2 (at_some hk1) rfl)) ?_
            refine wt_split rfl rfl rfl rfl (yp_gtr rfl rfl rfl) ?_ ?_
            · intro h6_40
              refine wt_read rfl rfl rfl rfl (yl_pickF rfl rfl rfl) ?_
              refine wt_nil ?_
              refine at_keep (Keep.cons 0 rfl (Keep.cons 4 rfl (Keep.cons 16 rfl (Keep.cons 60 rfl Keep.nil)))) ?_
              refine at_true rfl ?_
              refine at_seq ?_
              refine at_region ?_
              refine wl_read rfl rfl rfl (yl_assign rfl rfl) ?_
              refine wl_read rfl rfl rfl (yl_assign rfl rfl) ?_
              refine wl_nil ?_
              refine at_keep (Keep.cons 0 rfl (Keep.cons 2 rfl (Keep.cons 3 rfl (Keep.cons 4 rfl (Keep.cons 16 rfl (Keep.cons 60 rfl Keep.nil)))))) ?_
              refine at_ret Try.func16 (res2 rfl rfl rfl) ?_
              exact .inr ⟨not_valid hk1 (by unfold okSt; omega), rfl, rfl⟩
            · intro h6_40
              refine wt_read rfl rfl rfl rfl (yl_pickF rfl rfl rfl) ?_
              refine wt_nil ?_
              refine at_keep (Keep.cons 0 rfl (Keep.cons 4 rfl (Keep.cons 16 rfl (Keep.cons 60 rfl Keep.nil)))) ?_
              refine at_false rfl ?_
              refine at_skip ?_
              refine at_inBlock ?_
              refine at_region ?_
              refine wl_read rfl rfl rfl (yl_move rfl rfl) ?_
              refine wl_read rfl rfl rfl (yl_add rfl rfl rfl (w64 (by omega) (by omega))) ?_
              refine wl_read rfl rfl rfl (yl_assign rfl rfl) ?_
              refine wl_nil ?_
              refine at_keep (Keep.cons 0 rfl (Keep.cons 4 rfl (Keep.cons 16 rfl (Keep.cons 60 rfl Keep.nil)))) ?_
              exact at_keep (L' := (fun k => [(0, .slice A s.length c), (4, .int .i64 (k : Int))]) (k + 1)) (Keep.consEq 0 rfl rfl (Keep.consEq 4 rfl rfl Keep.nil)) (ih (k + 1) ⟨by omega, fun i hi => by
      rcases Nat.lt_or_ge i k with h | h
      · exact hI2 i h
      · have e : i = k := by omega
        subst e; unfold okSt; omega⟩ (by omega))
    · intro h4_3
      refine wl_nil ?_
      refine at_keep (Keep.cons 0 rfl (Keep.cons 4 rfl (Keep.cons 16 rfl Keep.nil))) ?_
      refine at_false rfl ?_
      refine at_exit rfl ?_
      refine at_seq ?_
      have hval : Valid s := ⟨by omega, fun i hi => hI2 i (by omega)⟩
      have hl120 := hval.1
      clear ih hI2
      refine at_region ?_
      refine wl_read rfl rfl rfl (yl_assign rfl rfl) ?_
      refine wl_nil ?_
      refine at_keep (Keep.cons 0 rfl (Keep.cons 4 rfl (Keep.cons 5 rfl (Keep.cons 16 rfl Keep.nil)))) ?_
      refine at_seq ?_
      refine at_region ?_
      refine wl_read rfl rfl rfl (yl_assign rfl rfl) ?_
      refine wl_read rfl rfl rfl (yl_assign rfl rfl) ?_
      refine wl_nil ?_
      refine at_keep (Keep.cons 0 rfl (Keep.cons 4 rfl (Keep.cons 5 rfl (Keep.cons 6 rfl (Keep.cons 7 rfl (Keep.cons 16 rfl Keep.nil)))))) ?_
      refine at_seq ?_
      refine at_seq ?_
      refine at_region ?_
      refine wl_read rfl rfl rfl (yl_assign rfl rfl) ?_
      refine wl_nil ?_
      refine at_keep (Keep.cons 0 rfl (Keep.cons 4 rfl (Keep.cons 5 rfl (Keep.cons 6 rfl (Keep.cons 7 rfl (Keep.cons 8 rfl (Keep.cons 16 rfl Keep.nil))))))) ?_
      refine at_block ?_
      refine at_keep (L' := (fun A1 c1 k => [(0, .slice A s.length c), (5, .slice A1 (runs s k).length c1), (6, .int .i64 (fl s k).1), (7, .int .i64 (fl s k).2), (8, .int .i64 (k : Int))]) none 0 0) (Keep.consEq 0 rfl rfl (Keep.consEq 5 rfl rfl (Keep.consEq 6 rfl rfl (Keep.consEq 7 rfl rfl (Keep.consEq 8 rfl rfl Keep.nil))))) ?_
      refine at_heap (fun _ hw => hw.nilSl (α := Running) 32) ?_
      refine at_loop3 (fun A1 c1 k => k ≤ s.length) (fun A1 c1 k => [(0, .slice A s.length c), (5, .slice A1 (runs s k).length c1), (6, .int .i64 (fl s k).1), (7, .int .i64 (fl s k).2), (8, .int .i64 (k : Int))]) (fun A1 c1 k => Sl A1 c1 32 (runs s k) :: H) (fun A1 c1 k => s.length - k) none 0 0 (by omega) ?_
      intro A1 c1 k hI ih
      have hsl := runs_length s k
      have hsucc := runs_succ s k
      refine at_seq ?_
      refine at_seq ?_
      refine at_region ?_
      refine wl_read rfl rfl rfl (yl_move rfl rfl) ?_
      refine wl_read rfl rfl rfl (yl_move rfl rfl) ?_
      refine wl_read rfl rfl rfl (yl_len rfl rfl Try.underlying23) ?_
      refine wl_split rfl rfl rfl (yp_lss rfl rfl rfl) ?_ ?_
      · intro h11_3
        refine wl_nil ?_
        refine at_keep (Keep.cons 0 rfl (Keep.cons 5 rfl (Keep.cons 6 rfl (Keep.cons 7 rfl (Keep.cons 8 rfl (Keep.cons 64 rfl Keep.nil)))))) ?_
        refine at_true rfl ?_
        refine at_skip ?_
        refine at_seq ?_
        refine at_block ?_
        refine at_seq ?_
        have hk2 : k < s.length := by omega
        refine at_region ?_
        refine wl_read rfl rfl rfl (yl_move rfl rfl) ?_
        refine wl_read rfl rfl rfl (yl_move rfl rfl) ?_
        refine wl_read rfl rfl rfl (yl_index rfl rfl rfl (hR.cons _) (at_some hk2) rfl rfl Try.underlying23 (by kernel_rfl) rfl) ?_
        refine wl_read rfl rfl rfl (yl_field rfl rfl Try.underlying37 rfl (by kernel_rfl) rfl) ?_
        refine wl_read rfl rfl rfl (yl_load rfl rfl Try.underlying3 rfl ((hR.cons _).cell2 (at_some hk2) rfl)) ?_
        refine wl_read rfl rfl rfl (yl_build (cs := Enc.cells (⟨(at_ s k).month, 0, false⟩ : Running)) rfl rfl (fun _ => by kernel_rfl)) ?_
        refine wl_eff rfl rfl rfl (ef_alloc (cs := [.int .i64 0, .int .i64 0, .bool false]) (z := .agg #[.int .i64 0, .int .i64 0, .bool false]) rfl (by kernel_rfl) rfl) ?_
        rintro _ _ ⟨g13_6, rfl, rfl⟩
        refine wl_store rfl rfl (es_at0 (es_storeN 0 rfl rfl rfl rfl (by kernel_rfl) rfl rfl)) ?_
        refine wl_nil ?_
        refine at_keep (Keep.cons 0 rfl (Keep.cons 5 rfl (Keep.cons 6 rfl (Keep.cons 7 rfl (Keep.cons 8 rfl (Keep.cons 9 rfl (Keep.cons 64 rfl Keep.nil))))))) ?_
        refine at_seq ?_
        refine at_seq ?_
        refine at_region ?_
        refine wl_read rfl rfl rfl (yl_move rfl rfl) ?_
        refine wl_read rfl rfl rfl (yl_move rfl rfl) ?_
        refine wl_read rfl rfl rfl (yl_index rfl rfl rfl ((hR.cons _).cons _) (at_some hk2) rfl rfl Try.underlying23 (by kernel_rfl) rfl) ?_
        refine wl_read rfl rfl rfl (yl_field rfl rfl Try.underlying37 rfl (by kernel_rfl) rfl) ?_
        refine wl_splitB rfl rfl rfl (yl_load rfl rfl Try.underlying4 rfl (((hR.cons _).cons _).cell2 (at_some hk2) rfl)) ?_ ?_
        · intro h14_4
          refine wl_nil ?_
          refine at_keep (Keep.cons 0 rfl (Keep.cons 5 rfl (Keep.cons 6 rfl (Keep.cons 7 rfl (Keep.cons 8 rfl (Keep.cons 9 rfl (Keep.cons 64 rfl (Keep.cons 77 rfl Keep.nil)))))))) ?_
          refine at_true rfl ?_
          refine at_region ?_
          refine wl_read rfl rfl rfl (yl_assign rfl rfl) ?_
          refine wl_nil ?_
          refine at_keep (Keep.cons 0 rfl (Keep.cons 5 rfl (Keep.cons 6 rfl (Keep.cons 7 rfl (Keep.cons 8 rfl (Keep.cons 9 rfl (Keep.cons 64 rfl (Keep.cons 77 rfl Keep.nil)))))))) ?_
          refine at_seq ?_
          refine at_region ?_
          refine wl_read rfl rfl rfl (yl_fieldB rfl rfl Try.underlying32 rfl (by kernel_rfl) rfl) ?_
          refine wl_read rfl rfl rfl (yl_load rfl rfl Try.underlying3 rfl (CellAt.bk 0 rfl rfl)) ?_
          refine wl_read rfl rfl rfl (yl_assign rfl rfl) ?_
          refine wl_nil ?_
          refine at_keep (Keep.cons 0 rfl (Keep.cons 5 rfl (Keep.cons 6 rfl (Keep.cons 7 rfl (Keep.cons 8 rfl (Keep.cons 9 rfl (Keep.cons 64 rfl (Keep.cons 77 rfl Keep.nil)))))))) ?_
          have hfl : fl s (k + 1) = (0, 0) := by simp only [fl, h14_4, ↓reduceIte, Bool.false_eq_true]
          have e : rw_ s k = (⟨(at_ s k).month, 0, false⟩ : Running) := by simp only [rw_, hfl]; simp [h14_4]
          refine at_region ?_
          refine wl_read rfl rfl rfl (yl_move rfl rfl) ?_
          refine wl_read rfl rfl rfl (yl_loadBk 0 rfl rfl rfl Try.underlying32 rfl (by kernel_rfl)) ?_
          refine wl_eff rfl rfl rfl (ef_buildSlice (e := 32) [(⟨(at_ s k).month, 0, false⟩ : Running)] rfl rfl (fun _ => by kernel_rfl) rfl rfl) ?_
          rintro _ _ ⟨T20_2, rfl, rfl⟩
          refine wl_eff rfl rfl rfl (ef_append (ys := [(⟨(at_ s k).month, 0, false⟩ : Running)]) 2 rfl rfl rfl rfl (Rd.of_sl 0 rfl) Try.underlying25 info32 rfl rfl (by simp only [List.length_singleton, maxLen]; omega) (by simp only [List.length_singleton]; omega)) ?_
          rintro _ _ ⟨A2, c2, rfl, hH⟩
          simp only [List.set_cons_succ, List.set_cons_zero] at hH; subst hH
          rw [← e, ← hsucc]
          refine wl_heap (fun _ hw => hw.tail.tail) ?_
          refine wl_read rfl rfl rfl (yl_assign rfl rfl) ?_
          refine wl_nil ?_
          refine at_keep (Keep.cons 0 rfl (Keep.cons 5 rfl (Keep.cons 6 rfl (Keep.cons 7 rfl (Keep.cons 8 rfl (Keep.cons 9 rfl (Keep.cons 64 rfl (Keep.cons 77 rfl Keep.nil)))))))) ?_
          refine at_inBlock ?_
          refine at_region ?_
          refine wl_read rfl rfl rfl (yl_move rfl rfl) ?_
          refine wl_read rfl rfl rfl (yl_add rfl rfl rfl (w64 (by omega) (by omega))) ?_
          refine wl_read rfl rfl rfl (yl_assign rfl rfl) ?_
          refine wl_nil ?_
          refine at_keep (Keep.cons 0 rfl (Keep.cons 5 rfl (Keep.cons 6 rfl (Keep.cons 7 rfl (Keep.cons 8 rfl (Keep.cons 9 rfl (Keep.cons 64 rfl (Keep.cons 77 rfl Keep.nil)))))))) ?_
          exact at_keep (L' := (fun A1 c1 k => [(0, .slice A s.length c), (5, .slice A1 (runs s k).length c1), (6, .int .i64 (fl s k).1), (7, .int .i64 (fl s k).2), (8, .int .i64 (k : Int))]) A2 c2 (k + 1)) (Keep.consEq 0 rfl rfl (Keep.consEq 5 rfl rfl (Keep.consEq 6 rfl (by rw [hfl]) (Keep.consEq 7 rfl (by first | (rw [hfl]; done) | rw [hfl, e]) (Keep.consEq 8 rfl rfl Keep.nil))))) (ih A2 c2 (k + 1) (by omega) (by omega))
        · intro h14_4
          refine wl_nil ?_
          refine at_keep (Keep.cons 0 rfl (Keep.cons 5 rfl (Keep.cons 6 rfl (Keep.cons 7 rfl (Keep.cons 8 rfl (Keep.cons 9 rfl (Keep.cons 64 rfl (Keep.cons 77 rfl Keep.nil)))))))) ?_
          refine at_false rfl ?_
          refine at_seq ?_
          refine at_seq ?_
          refine at_region ?_
          refine wl_read rfl rfl rfl (yl_move rfl rfl) ?_
          refine wl_read rfl rfl rfl (yl_move rfl rfl) ?_
          refine wl_read rfl rfl rfl (yl_index rfl rfl rfl ((hR.cons _).cons _) (at_some hk2) rfl rfl Try.underlying23 (by kernel_rfl) rfl) ?_
          refine wl_read rfl rfl rfl (yl_field rfl rfl Try.underlying37 rfl (by kernel_rfl) rfl) ?_
          refine wl_splitB rfl rfl rfl (yl_load rfl rfl Try.underlying4 rfl (((hR.cons _).cons _).cell2 (at_some hk2) rfl)) ?_ ?_
          · intro h16_4
            refine wl_nil ?_
            refine at_keep (Keep.cons 0 rfl (Keep.cons 5 rfl (Keep.cons 6 rfl (Keep.cons 7 rfl (Keep.cons 8 rfl (Keep.cons 9 rfl (Keep.cons 64 rfl (Keep.cons 77 rfl (Keep.cons 82 rfl Keep.nil))))))))) ?_
            refine at_true rfl ?_
            refine at_region ?_
            refine wl_read rfl rfl rfl (yl_move rfl rfl) ?_
            refine wl_read rfl rfl rfl (yl_move rfl rfl) ?_
            refine wl_read rfl rfl rfl (yl_max rfl rfl rfl) ?_
            refine wl_read rfl rfl rfl (yl_assign rfl rfl) ?_
            refine wl_nil ?_
            refine at_keep (Keep.cons 0 rfl (Keep.cons 5 rfl (Keep.cons 6 rfl (Keep.cons 7 rfl (Keep.cons 8 rfl (Keep.cons 9 rfl (Keep.cons 64 rfl (Keep.cons 77 rfl (Keep.cons 82 rfl Keep.nil))))))))) ?_
            refine at_draw1 (.fl 0 (.fl 1 (.fl 2 (.fl 3 (.fl 4 (.fl 5 (.fl 6 (.fl 7 (.fl 8 (.fl 9 (.fl 10 (.fl 11 (.fl 12 (.fl 13 (.fl 14 (.ef 15 (.fl 16 (.ef 17 .nil)))))))))))))))))) (by kernel_rfl) (by kernel_rfl) ?_
            refine wt_read rfl rfl rfl rfl (yl_move rfl rfl) ?_
            refine wt_read rfl rfl rfl rfl (yl_move rfl rfl) ?_
            refine wt_read rfl rfl rfl rfl (yl_index rfl rfl rfl (hR.cons _) (at_some hk2) rfl rfl Try.underlying23 (by kernel_rfl) rfl) ?_
            refine wt_read rfl rfl rfl rfl (yl_field rfl rfl Try.underlying37 rfl (by kernel_rfl) rfl) ?_
            refine wt_read rfl rfl rfl rfl (yl_load rfl rfl Try.underlying3 rfl ((hR.cons _).cell2 (at_some hk2) rfl)) ?_
            refine wt_read rfl rfl rfl rfl (yl_move rfl rfl) ?_
            refine wt_read rfl rfl rfl rfl (yl_max rfl rfl rfl) ?_
            refine wt_read rfl rfl rfl rfl (yl_move rfl rfl) ?_
            refine wt_read rfl rfl rfl rfl (yl_move rfl rfl) ?_
            refine wt_read rfl rfl rfl rfl (yl_move rfl rfl) ?_
            refine wt_read rfl rfl rfl rfl (yl_index rfl rfl rfl (hR.cons _) (at_some hk2) rfl rfl Try.underlying23 (by kernel_rfl) rfl) ?_
            refine wt_read rfl rfl rfl rfl (yl_field rfl rfl Try.underlying37 rfl (by kernel_rfl) rfl) ?_
            refine wt_read rfl rfl rfl rfl (yl_load rfl rfl Try.underlying3 rfl ((hR.cons _).cell2 (at_some hk2) rfl)) ?_
            refine wt_split rfl rfl rfl rfl (yp_gtr rfl rfl rfl) ?_ ?_
            · intro h18_13
              refine wt_read rfl rfl rfl rfl (yl_fieldB rfl rfl Try.underlying32 rfl (by kernel_rfl) rfl) ?_
              refine wt_store rfl rfl rfl (es_at0 (es_store 0 rfl rfl rfl rfl (by kernel_rfl) rfl rfl)) ⟨[_], rfl⟩ ?_
              refine wt_read rfl rfl rfl rfl (yl_fieldB rfl rfl Try.underlying32 rfl (by kernel_rfl) rfl) ?_
              refine wt_store rfl rfl rfl (es_at0 (es_store 0 rfl rfl rfl rfl (by kernel_rfl) rfl rfl)) ⟨[_], rfl⟩ ?_
              refine wt_nil ?_
              refine at_keep (Keep.cons 0 rfl (Keep.cons 5 rfl (Keep.cons 6 rfl (Keep.cons 7 rfl (Keep.cons 8 rfl (Keep.cons 9 rfl (Keep.cons 64 rfl (Keep.cons 77 rfl (Keep.cons 82 rfl Keep.nil))))))))) ?_
              refine at_seq ?_
              refine at_region ?_
              refine wl_read rfl rfl rfl (yl_fieldB rfl rfl Try.underlying32 rfl (by kernel_rfl) rfl) ?_
              refine wl_read rfl rfl rfl (yl_load rfl rfl Try.underlying3 rfl (CellAt.bk 0 rfl rfl)) ?_
              refine wl_read rfl rfl rfl (yl_assign rfl rfl) ?_
              refine wl_nil ?_
              refine at_keep (Keep.cons 0 rfl (Keep.cons 5 rfl (Keep.cons 6 rfl (Keep.cons 7 rfl (Keep.cons 8 rfl (Keep.cons 9 rfl (Keep.cons 64 rfl (Keep.cons 77 rfl (Keep.cons 82 rfl Keep.nil))))))))) ?_
              have hfl : fl s (k + 1) = (max (fl s k).1 (fl s k).2, max (at_ s k).amount (max (fl s k).1 (fl s k).2)) := by simp only [fl, h14_4, h16_4, ↓reduceIte, Bool.false_eq_true]
              have e : rw_ s k = (⟨(at_ s k).month, max (at_ s k).amount (max (fl s k).1 (fl s k).2), true⟩ : Running) := by simp only [rw_, hfl]; simp [h14_4, h18_13]
              refine at_region ?_
              refine wl_read rfl rfl rfl (yl_move rfl rfl) ?_
              refine wl_read rfl rfl rfl (yl_loadBk 0 rfl rfl rfl Try.underlying32 rfl (by kernel_rfl)) ?_
              refine wl_eff rfl rfl rfl (ef_buildSlice (e := 32) [(⟨(at_ s k).month, max (at_ s k).amount (max (fl s k).1 (fl s k).2), true⟩ : Running)] rfl rfl (fun _ => by kernel_rfl) rfl rfl) ?_
              rintro _ _ ⟨T20_2, rfl, rfl⟩
              refine wl_eff rfl rfl rfl (ef_append (ys := [(⟨(at_ s k).month, max (at_ s k).amount (max (fl s k).1 (fl s k).2), true⟩ : Running)]) 2 rfl rfl rfl rfl (Rd.of_sl 0 rfl) Try.underlying25 info32 rfl rfl (by simp only [List.length_singleton, maxLen]; omega) (by simp only [List.length_singleton]; omega)) ?_
              rintro _ _ ⟨A2, c2, rfl, hH⟩
              simp only [List.set_cons_succ, List.set_cons_zero] at hH; subst hH
              rw [← e, ← hsucc]
              refine wl_heap (fun _ hw => hw.tail.tail) ?_
              refine wl_read rfl rfl rfl (yl_assign rfl rfl) ?_
              refine wl_nil ?_
              refine at_keep (Keep.cons 0 rfl (Keep.cons 5 rfl (Keep.cons 6 rfl (Keep.cons 7 rfl (Keep.cons 8 rfl (Keep.cons 9 rfl (Keep.cons 64 rfl (Keep.cons 77 rfl (Keep.cons 82 rfl Keep.nil))))))))) ?_
              refine at_inBlock ?_
              refine at_region ?_
              refine wl_read rfl rfl rfl (yl_move rfl rfl) ?_
              refine wl_read rfl rfl rfl (yl_add rfl rfl rfl (w64 (by omega) (by omega))) ?_
              refine wl_read rfl rfl rfl (yl_assign rfl rfl) ?_
              refine wl_nil ?_
              refine at_keep (Keep.cons 0 rfl (Keep.cons 5 rfl (Keep.cons 6 rfl (Keep.cons 7 rfl (Keep.cons 8 rfl (Keep.cons 9 rfl (Keep.cons 64 rfl (Keep.cons 77 rfl (Keep.cons 82 rfl Keep.nil))))))))) ?_
              exact at_keep (L' := (fun A1 c1 k => [(0, .slice A s.length c), (5, .slice A1 (runs s k).length c1), (6, .int .i64 (fl s k).1), (7, .int .i64 (fl s k).2), (8, .int .i64 (k : Int))]) A2 c2 (k + 1)) (Keep.consEq 0 rfl rfl (Keep.consEq 5 rfl rfl (Keep.consEq 6 rfl (by rw [hfl]) (Keep.consEq 7 rfl (by first | (rw [hfl]; done) | rw [hfl, e]) (Keep.consEq 8 rfl rfl Keep.nil))))) (ih A2 c2 (k + 1) (by omega) (by omega))
            · intro h18_13
              refine wt_read rfl rfl rfl rfl (yl_fieldB rfl rfl Try.underlying32 rfl (by kernel_rfl) rfl) ?_
              refine wt_store rfl rfl rfl (es_at0 (es_store 0 rfl rfl rfl rfl (by kernel_rfl) rfl rfl)) ⟨[_], rfl⟩ ?_
              refine wt_read rfl rfl rfl rfl (yl_fieldB rfl rfl Try.underlying32 rfl (by kernel_rfl) rfl) ?_
              refine wt_store rfl rfl rfl (es_at0 (es_store 0 rfl rfl rfl rfl (by kernel_rfl) rfl rfl)) ⟨[_], rfl⟩ ?_
              refine wt_nil ?_
              refine at_keep (Keep.cons 0 rfl (Keep.cons 5 rfl (Keep.cons 6 rfl (Keep.cons 7 rfl (Keep.cons 8 rfl (Keep.cons 9 rfl (Keep.cons 64 rfl (Keep.cons 77 rfl (Keep.cons 82 rfl Keep.nil))))))))) ?_
              refine at_seq ?_
              refine at_region ?_
              refine wl_read rfl rfl rfl (yl_fieldB rfl rfl Try.underlying32 rfl (by kernel_rfl) rfl) ?_
              refine wl_read rfl rfl rfl (yl_load rfl rfl Try.underlying3 rfl (CellAt.bk 0 rfl rfl)) ?_
              refine wl_read rfl rfl rfl (yl_assign rfl rfl) ?_
              refine wl_nil ?_
              refine at_keep (Keep.cons 0 rfl (Keep.cons 5 rfl (Keep.cons 6 rfl (Keep.cons 7 rfl (Keep.cons 8 rfl (Keep.cons 9 rfl (Keep.cons 64 rfl (Keep.cons 77 rfl (Keep.cons 82 rfl Keep.nil))))))))) ?_
              have hfl : fl s (k + 1) = (max (fl s k).1 (fl s k).2, max (at_ s k).amount (max (fl s k).1 (fl s k).2)) := by simp only [fl, h14_4, h16_4, ↓reduceIte, Bool.false_eq_true]
              have e : rw_ s k = (⟨(at_ s k).month, max (at_ s k).amount (max (fl s k).1 (fl s k).2), false⟩ : Running) := by simp only [rw_, hfl]; simp [h14_4, h18_13]
              refine at_region ?_
              refine wl_read rfl rfl rfl (yl_move rfl rfl) ?_
              refine wl_read rfl rfl rfl (yl_loadBk 0 rfl rfl rfl Try.underlying32 rfl (by kernel_rfl)) ?_
              refine wl_eff rfl rfl rfl (ef_buildSlice (e := 32) [(⟨(at_ s k).month, max (at_ s k).amount (max (fl s k).1 (fl s k).2), false⟩ : Running)] rfl rfl (fun _ => by kernel_rfl) rfl rfl) ?_
              rintro _ _ ⟨T20_2, rfl, rfl⟩
              refine wl_eff rfl rfl rfl (ef_append (ys := [(⟨(at_ s k).month, max (at_ s k).amount (max (fl s k).1 (fl s k).2), false⟩ : Running)]) 2 rfl rfl rfl rfl (Rd.of_sl 0 rfl) Try.underlying25 info32 rfl rfl (by simp only [List.length_singleton, maxLen]; omega) (by simp only [List.length_singleton]; omega)) ?_
              rintro _ _ ⟨A2, c2, rfl, hH⟩
              simp only [List.set_cons_succ, List.set_cons_zero] at hH; subst hH
              rw [← e, ← hsucc]
              refine wl_heap (fun _ hw => hw.tail.tail) ?_
              refine wl_read rfl rfl rfl (yl_assign rfl rfl) ?_
              refine wl_nil ?_
              refine at_keep (Keep.cons 0 rfl (Keep.cons 5 rfl (Keep.cons 6 rfl (Keep.cons 7 rfl (Keep.cons 8 rfl (Keep.cons 9 rfl (Keep.cons 64 rfl (Keep.cons 77 rfl (Keep.cons 82 rfl Keep.nil))))))))) ?_
              refine at_inBlock ?_
              refine at_region ?_
              refine wl_read rfl rfl rfl (yl_move rfl rfl) ?_
              refine wl_read rfl rfl rfl (yl_add rfl rfl rfl (w64 (by omega) (by omega))) ?_
              refine wl_read rfl rfl rfl (yl_assign rfl rfl) ?_
              refine wl_nil ?_
              refine at_keep (Keep.cons 0 rfl (Keep.cons 5 rfl (Keep.cons 6 rfl (Keep.cons 7 rfl (Keep.cons 8 rfl (Keep.cons 9 rfl (Keep.cons 64 rfl (Keep.cons 77 rfl (Keep.cons 82 rfl Keep.nil))))))))) ?_
              exact at_keep (L' := (fun A1 c1 k => [(0, .slice A s.length c), (5, .slice A1 (runs s k).length c1), (6, .int .i64 (fl s k).1), (7, .int .i64 (fl s k).2), (8, .int .i64 (k : Int))]) A2 c2 (k + 1)) (Keep.consEq 0 rfl rfl (Keep.consEq 5 rfl rfl (Keep.consEq 6 rfl (by rw [hfl]) (Keep.consEq 7 rfl (by first | (rw [hfl]; done) | rw [hfl, e]) (Keep.consEq 8 rfl rfl Keep.nil))))) (ih A2 c2 (k + 1) (by omega) (by omega))
          · intro h16_4
            refine wl_nil ?_
            refine at_keep (Keep.cons 0 rfl (Keep.cons 5 rfl (Keep.cons 6 rfl (Keep.cons 7 rfl (Keep.cons 8 rfl (Keep.cons 9 rfl (Keep.cons 64 rfl (Keep.cons 77 rfl (Keep.cons 82 rfl Keep.nil))))))))) ?_
            refine at_false rfl ?_
            refine at_skip ?_
            refine at_draw1 (.fl 0 (.fl 1 (.fl 2 (.fl 3 (.fl 4 (.fl 5 (.fl 6 (.fl 7 (.fl 8 (.fl 9 (.fl 10 (.fl 11 (.fl 12 (.fl 13 (.fl 14 (.ef 15 (.fl 16 (.ef 17 .nil)))))))))))))))))) (by kernel_rfl) (by kernel_rfl) ?_
            refine wt_read rfl rfl rfl rfl (yl_move rfl rfl) ?_
            refine wt_read rfl rfl rfl rfl (yl_move rfl rfl) ?_
            refine wt_read rfl rfl rfl rfl (yl_index rfl rfl rfl (hR.cons _) (at_some hk2) rfl rfl Try.underlying23 (by kernel_rfl) rfl) ?_
            refine wt_read rfl rfl rfl rfl (yl_field rfl rfl Try.underlying37 rfl (by kernel_rfl) rfl) ?_
            refine wt_read rfl rfl rfl rfl (yl_load rfl rfl Try.underlying3 rfl ((hR.cons _).cell2 (at_some hk2) rfl)) ?_
            refine wt_read rfl rfl rfl rfl (yl_move rfl rfl) ?_
            refine wt_read rfl rfl rfl rfl (yl_max rfl rfl rfl) ?_
            refine wt_read rfl rfl rfl rfl (yl_move rfl rfl) ?_
            refine wt_read rfl rfl rfl rfl (yl_move rfl rfl) ?_
            refine wt_read rfl rfl rfl rfl (yl_move rfl rfl) ?_
            refine wt_read rfl rfl rfl rfl (yl_index rfl rfl rfl (hR.cons _) (at_some hk2) rfl rfl Try.underlying23 (by kernel_rfl) rfl) ?_
            refine wt_read rfl rfl rfl rfl (yl_field rfl rfl Try.underlying37 rfl (by kernel_rfl) rfl) ?_
            refine wt_read rfl rfl rfl rfl (yl_load rfl rfl Try.underlying3 rfl ((hR.cons _).cell2 (at_some hk2) rfl)) ?_
            refine wt_split rfl rfl rfl rfl (yp_gtr rfl rfl rfl) ?_ ?_
            · intro h18_13
              refine wt_read rfl rfl rfl rfl (yl_fieldB rfl rfl Try.underlying32 rfl (by kernel_rfl) rfl) ?_
              refine wt_store rfl rfl rfl (es_at0 (es_store 0 rfl rfl rfl rfl (by kernel_rfl) rfl rfl)) ⟨[_], rfl⟩ ?_
              refine wt_read rfl rfl rfl rfl (yl_fieldB rfl rfl Try.underlying32 rfl (by kernel_rfl) rfl) ?_
              refine wt_store rfl rfl rfl (es_at0 (es_store 0 rfl rfl rfl rfl (by kernel_rfl) rfl rfl)) ⟨[_], rfl⟩ ?_
              refine wt_nil ?_
              refine at_keep (Keep.cons 0 rfl (Keep.cons 5 rfl (Keep.cons 6 rfl (Keep.cons 7 rfl (Keep.cons 8 rfl (Keep.cons 9 rfl (Keep.cons 64 rfl (Keep.cons 77 rfl (Keep.cons 82 rfl Keep.nil))))))))) ?_
              refine at_seq ?_
              refine at_region ?_
              refine wl_read rfl rfl rfl (yl_fieldB rfl rfl Try.underlying32 rfl (by kernel_rfl) rfl) ?_
              refine wl_read rfl rfl rfl (yl_load rfl rfl Try.underlying3 rfl (CellAt.bk 0 rfl rfl)) ?_
              refine wl_read rfl rfl rfl (yl_assign rfl rfl) ?_
              refine wl_nil ?_
              refine at_keep (Keep.cons 0 rfl (Keep.cons 5 rfl (Keep.cons 6 rfl (Keep.cons 7 rfl (Keep.cons 8 rfl (Keep.cons 9 rfl (Keep.cons 64 rfl (Keep.cons 77 rfl (Keep.cons 82 rfl Keep.nil))))))))) ?_
              have hfl : fl s (k + 1) = ((fl s k).1, max (at_ s k).amount (fl s k).1) := by simp only [fl, h14_4, h16_4, ↓reduceIte, Bool.false_eq_true]
              have e : rw_ s k = (⟨(at_ s k).month, max (at_ s k).amount (fl s k).1, true⟩ : Running) := by simp only [rw_, hfl]; simp [h14_4, h18_13]
              refine at_region ?_
              refine wl_read rfl rfl rfl (yl_move rfl rfl) ?_
              refine wl_read rfl rfl rfl (yl_loadBk 0 rfl rfl rfl Try.underlying32 rfl (by kernel_rfl)) ?_
              refine wl_eff rfl rfl rfl (ef_buildSlice (e := 32) [(⟨(at_ s k).month, max (at_ s k).amount (fl s k).1, true⟩ : Running)] rfl rfl (fun _ => by kernel_rfl) rfl rfl) ?_
              rintro _ _ ⟨T20_2, rfl, rfl⟩
              refine wl_eff rfl rfl rfl (ef_append (ys := [(⟨(at_ s k).month, max (at_ s k).amount (fl s k).1, true⟩ : Running)]) 2 rfl rfl rfl rfl (Rd.of_sl 0 rfl) Try.underlying25 info32 rfl rfl (by simp only [List.length_singleton, maxLen]; omega) (by simp only [List.length_singleton]; omega)) ?_
              rintro _ _ ⟨A2, c2, rfl, hH⟩
              simp only [List.set_cons_succ, List.set_cons_zero] at hH; subst hH
              rw [← e, ← hsucc]
              refine wl_heap (fun _ hw => hw.tail.tail) ?_
              refine wl_read rfl rfl rfl (yl_assign rfl rfl) ?_
              refine wl_nil ?_
              refine at_keep (Keep.cons 0 rfl (Keep.cons 5 rfl (Keep.cons 6 rfl (Keep.cons 7 rfl (Keep.cons 8 rfl (Keep.cons 9 rfl (Keep.cons 64 rfl (Keep.cons 77 rfl (Keep.cons 82 rfl Keep.nil))))))))) ?_
              refine at_inBlock ?_
              refine at_region ?_
              refine wl_read rfl rfl rfl (yl_move rfl rfl) ?_
              refine wl_read rfl rfl rfl (yl_add rfl rfl rfl (w64 (by omega) (by omega))) ?_
              refine wl_read rfl rfl rfl (yl_assign rfl rfl) ?_
              refine wl_nil ?_
              refine at_keep (Keep.cons 0 rfl (Keep.cons 5 rfl (Keep.cons 6 rfl (Keep.cons 7 rfl (Keep.cons 8 rfl (Keep.cons 9 rfl (Keep.cons 64 rfl (Keep.cons 77 rfl (Keep.cons 82 rfl Keep.nil))))))))) ?_
              exact at_keep (L' := (fun A1 c1 k => [(0, .slice A s.length c), (5, .slice A1 (runs s k).length c1), (6, .int .i64 (fl s k).1), (7, .int .i64 (fl s k).2), (8, .int .i64 (k : Int))]) A2 c2 (k + 1)) (Keep.consEq 0 rfl rfl (Keep.consEq 5 rfl rfl (Keep.consEq 6 rfl (by rw [hfl]) (Keep.consEq 7 rfl (by first | (rw [hfl]; done) | rw [hfl, e]) (Keep.consEq 8 rfl rfl Keep.nil))))) (ih A2 c2 (k + 1) (by omega) (by omega))
            · intro h18_13
              refine wt_read rfl rfl rfl rfl (yl_fieldB rfl rfl Try.underlying32 rfl (by kernel_rfl) rfl) ?_
              refine wt_store rfl rfl rfl (es_at0 (es_store 0 rfl rfl rfl rfl (by kernel_rfl) rfl rfl)) ⟨[_], rfl⟩ ?_
              refine wt_read rfl rfl rfl rfl (yl_fieldB rfl rfl Try.underlying32 rfl (by kernel_rfl) rfl) ?_
              refine wt_store rfl rfl rfl (es_at0 (es_store 0 rfl rfl rfl rfl (by kernel_rfl) rfl rfl)) ⟨[_], rfl⟩ ?_
              refine wt_nil ?_
              refine at_keep (Keep.cons 0 rfl (Keep.cons 5 rfl (Keep.cons 6 rfl (Keep.cons 7 rfl (Keep.cons 8 rfl (Keep.cons 9 rfl (Keep.cons 64 rfl (Keep.cons 77 rfl (Keep.cons 82 rfl Keep.nil))))))))) ?_
              refine at_seq ?_
              refine at_region ?_
              refine wl_read rfl rfl rfl (yl_fieldB rfl rfl Try.underlying32 rfl (by kernel_rfl) rfl) ?_
              refine wl_read rfl rfl rfl (yl_load rfl rfl Try.underlying3 rfl (CellAt.bk 0 rfl rfl)) ?_
              refine wl_read rfl rfl rfl (yl_assign rfl rfl) ?_
              refine wl_nil ?_
              refine at_keep (Keep.cons 0 rfl (Keep.cons 5 rfl (Keep.cons 6 rfl (Keep.cons 7 rfl (Keep.cons 8 rfl (Keep.cons 9 rfl (Keep.cons 64 rfl (Keep.cons 77 rfl (Keep.cons 82 rfl Keep.nil))))))))) ?_
              have hfl : fl s (k + 1) = ((fl s k).1, max (at_ s k).amount (fl s k).1) := by simp only [fl, h14_4, h16_4, ↓reduceIte, Bool.false_eq_true]
              have e : rw_ s k = (⟨(at_ s k).month, max (at_ s k).amount (fl s k).1, false⟩ : Running) := by simp only [rw_, hfl]; simp [h14_4, h18_13]
              refine at_region ?_
              refine wl_read rfl rfl rfl (yl_move rfl rfl) ?_
              refine wl_read rfl rfl rfl (yl_loadBk 0 rfl rfl rfl Try.underlying32 rfl (by kernel_rfl)) ?_
              refine wl_eff rfl rfl rfl (ef_buildSlice (e := 32) [(⟨(at_ s k).month, max (at_ s k).amount (fl s k).1, false⟩ : Running)] rfl rfl (fun _ => by kernel_rfl) rfl rfl) ?_
              rintro _ _ ⟨T20_2, rfl, rfl⟩
              refine wl_eff rfl rfl rfl (ef_append (ys := [(⟨(at_ s k).month, max (at_ s k).amount (fl s k).1, false⟩ : Running)]) 2 rfl rfl rfl rfl (Rd.of_sl 0 rfl) Try.underlying25 info32 rfl rfl (by simp only [List.length_singleton, maxLen]; omega) (by simp only [List.length_singleton]; omega)) ?_
              rintro _ _ ⟨A2, c2, rfl, hH⟩
              simp only [List.set_cons_succ, List.set_cons_zero] at hH; subst hH
              rw [← e, ← hsucc]
              refine wl_heap (fun _ hw => hw.tail.tail) ?_
              refine wl_read rfl rfl rfl (yl_assign rfl rfl) ?_
              refine wl_nil ?_
              refine at_keep (Keep.cons 0 rfl (Keep.cons 5 rfl (Keep.cons 6 rfl (Keep.cons 7 rfl (Keep.cons 8 rfl (Keep.cons 9 rfl (Keep.cons 64 rfl (Keep.cons 77 rfl (Keep.cons 82 rfl Keep.nil))))))))) ?_
              refine at_inBlock ?_
              refine at_region ?_
              refine wl_read rfl rfl rfl (yl_move rfl rfl) ?_
              refine wl_read rfl rfl rfl (yl_add rfl rfl rfl (w64 (by omega) (by omega))) ?_
              refine wl_read rfl rfl rfl (yl_assign rfl rfl) ?_
              refine wl_nil ?_
              refine at_keep (Keep.cons 0 rfl (Keep.cons 5 rfl (Keep.cons 6 rfl (Keep.cons 7 rfl (Keep.cons 8 rfl (Keep.cons 9 rfl (Keep.cons 64 rfl (Keep.cons 77 rfl (Keep.cons 82 rfl Keep.nil))))))))) ?_
              exact at_keep (L' := (fun A1 c1 k => [(0, .slice A s.length c), (5, .slice A1 (runs s k).length c1), (6, .int .i64 (fl s k).1), (7, .int .i64 (fl s k).2), (8, .int .i64 (k : Int))]) A2 c2 (k + 1)) (Keep.consEq 0 rfl rfl (Keep.consEq 5 rfl rfl (Keep.consEq 6 rfl (by rw [hfl]) (Keep.consEq 7 rfl (by first | (rw [hfl]; done) | rw [hfl, e]) (Keep.consEq 8 rfl rfl Keep.nil))))) (ih A2 c2 (k + 1) (by omega) (by omega))
      · intro h11_3
        refine wl_nil ?_
        refine at_keep (Keep.cons 0 rfl (Keep.cons 5 rfl (Keep.cons 6 rfl (Keep.cons 7 rfl (Keep.cons 8 rfl (Keep.cons 64 rfl Keep.nil)))))) ?_
        refine at_false rfl ?_
        refine at_exit rfl ?_
        refine at_seq ?_
        refine at_region ?_
        refine wl_read rfl rfl rfl (yl_move rfl rfl) ?_
        refine wl_read rfl rfl rfl (yl_assign rfl rfl) ?_
        refine wl_read rfl rfl rfl (yl_assign rfl rfl) ?_
        refine wl_nil ?_
        refine at_keep (Keep.cons 0 rfl (Keep.cons 2 rfl (Keep.cons 3 rfl (Keep.cons 5 rfl (Keep.cons 6 rfl (Keep.cons 7 rfl (Keep.cons 8 rfl (Keep.cons 64 rfl Keep.nil)))))))) ?_
        refine at_ret Try.func16 (res2 rfl rfl rfl) ?_
        have e : k = s.length := by omega
        exact .inl ⟨hval, A1, c1, by unfold run; rw [← e], by unfold run; rw [← e]⟩
end Go.Proofs.Yteckaphnapljnaa

/- Walks of Stages, valid, Run, Same, Compress, At, and of the references. -/
import Derived.Test.YteckaphnapljnaaA
namespace Go.Proofs.Yteckaphnapljnaa
open Go

theorem info37 : (Try.prog.info? 37).map (fun i => (i.zero, i.size, i.bytes)) = some (some (.agg #[.int .i64 0, .bool false, .bool false, .int .i64 0]), Enc.size Stage, 24) := by kernel_rfl
theorem info32 : (Try.prog.info? 32).map (fun i => (i.zero, i.size, i.bytes)) = some (some (.agg #[.int .i64 0, .int .i64 0, .bool false]), Enc.size Running, 24) := by kernel_rfl

theorem stages_fn (l : List Raw) (A : Option Addr) (c : Nat) (month : Int) (b : World) (H : List Asr) (hR : Rd H A l) (hl : l.length ≤ 140737488355328) (ha : ∀ i, i < l.length → I64 (at_ l i).amount) :
    Fn Try.prog 14 [.slice A l.length c, .int .i64 month] b H (fun v H' => ∃ A' c', v = .slice A' (stages l month).length c' ∧ H' = Sl A' c' 37 (stages l month) :: H) := by
  have hm := md_bd month 2359 (by omega)
  refine fn_of_at (by kernel_rfl) Try.func14 rfl Try.ntmps14 rfl rfl ?_
  refine at_seq ?_
  refine at_region ?_
  refine wl_read rfl rfl rfl (yl_assign rfl rfl) ?_
  refine wl_nil ?_
  refine at_keep (Keep.cons 0 rfl (Keep.cons 1 rfl (Keep.cons 4 rfl Keep.nil))) ?_
  refine at_seq ?_
  refine at_region ?_
  refine wl_read rfl rfl rfl (yl_move rfl rfl) ?_
  refine wl_call rfl rfl rfl (en_call rfl rfl) (mod_fn _ _ _ _ (by decide) (by decide)) ?_
  rintro _ _ ⟨rfl, rfl⟩
  refine wl_read rfl rfl rfl (yl_assign rfl rfl) ?_
  refine wl_nil ?_
  refine at_keep (Keep.cons 0 rfl (Keep.cons 1 rfl (Keep.cons 4 rfl (Keep.cons 5 rfl Keep.nil)))) ?_
  refine at_seq ?_
  refine at_region ?_
  refine wl_read rfl rfl rfl (yl_assign rfl rfl) ?_
  refine wl_nil ?_
  refine at_keep (Keep.cons 0 rfl (Keep.cons 1 rfl (Keep.cons 4 rfl (Keep.cons 5 rfl (Keep.cons 6 rfl Keep.nil))))) ?_
  refine at_seq ?_
  refine at_seq ?_
  refine at_region ?_
  refine wl_read rfl rfl rfl (yl_assign rfl rfl) ?_
  refine wl_nil ?_
  refine at_keep (Keep.cons 0 rfl (Keep.cons 1 rfl (Keep.cons 4 rfl (Keep.cons 5 rfl (Keep.cons 6 rfl (Keep.cons 7 rfl Keep.nil)))))) ?_
  refine at_block ?_
  refine at_keep (L' := (fun A1 c1 k => [(0, .slice A l.length c), (5, .int .i64 (md month 2359)), (6, .slice A1 (stgs l (md month 2359) k).length c1), (7, .int .i64 (k : Int))]) none 0 0) (Keep.consEq 0 rfl rfl (Keep.consEq 5 rfl rfl (Keep.consEq 6 rfl rfl (Keep.consEq 7 rfl rfl Keep.nil)))) ?_
  refine at_heap (fun _ hw => hw.nilSl (α := Stage) 37) ?_
  refine at_loop3 (fun A1 c1 k => k ≤ min l.length 30) (fun A1 c1 k => [(0, .slice A l.length c), (5, .int .i64 (md month 2359)), (6, .slice A1 (stgs l (md month 2359) k).length c1), (7, .int .i64 (k : Int))]) (fun A1 c1 k => Sl A1 c1 37 (stgs l (md month 2359) k) :: H) (fun A1 c1 k => 30 - k) none 0 0 (by omega) ?_
  intro A1 c1 k hI ih
  have hkl : k ≤ l.length := by omega
  have hk30 : k ≤ 30 := by omega
  have hsl := stgs_length l (md month 2359) k
  refine at_seq ?_
  refine at_seq ?_
  refine at_region ?_
  refine wl_read rfl rfl rfl (yl_move rfl rfl) ?_
  refine wl_read rfl rfl rfl (yl_move rfl rfl) ?_
  refine wl_read rfl rfl rfl (yl_len rfl rfl Try.underlying22) ?_
  refine wl_split rfl rfl rfl (yp_lss rfl rfl rfl) ?_ ?_
  · intro h4_3
    refine wl_read rfl rfl rfl (yl_move rfl rfl) ?_
    refine wl_read rfl rfl rfl (yl_move rfl rfl) ?_
    refine wl_split rfl rfl rfl (yp_lss rfl rfl rfl) ?_ ?_
    · intro h4_6
      refine wl_read rfl rfl rfl (yl_pickT rfl rfl rfl) ?_
      refine wl_nil ?_
      refine at_keep (Keep.cons 0 rfl (Keep.cons 5 rfl (Keep.cons 6 rfl (Keep.cons 7 rfl (Keep.cons 17 rfl Keep.nil))))) ?_
      refine at_true rfl ?_
      refine at_skip ?_
      refine at_seq ?_
      refine at_block ?_
      have hk1 : k < l.length := by omega
      have hsucc := stgs_succ l (md month 2359) k
      have hik := ha k hk1
      refine at_draw1 (.fl 0 (.fl 1 (.fl 2 (.fl 3 (.fl 4 (.fl 5 (.fl 6 (.fl 7 (.fl 8 (.fl 9 (.fl 10 (.fl 11 (.fl 12 (.fl 13 (.fl 14 (.fl 15 (.fl 16 (.fl 17 (.fl 18 (.ef 19 (.fl 20 (.ef 21 (.ef 22 (.fl 23 .nil)))))))))))))))))))))))) (by kernel_rfl) (by kernel_rfl) ?_
      refine wt_read rfl rfl rfl rfl (yl_move rfl rfl) ?_
      refine wt_read rfl rfl rfl rfl (yl_move rfl rfl) ?_
      refine wt_read rfl rfl rfl rfl (yl_move rfl rfl) ?_
      refine wt_read rfl rfl rfl rfl (yl_add rfl rfl rfl (w64 (by omega) (by omega))) ?_
      refine wt_read rfl rfl rfl rfl (yl_move rfl rfl) ?_
      refine wt_read rfl rfl rfl rfl (yl_move rfl rfl) ?_
      refine wt_read rfl rfl rfl rfl (yl_index rfl rfl rfl hR (at_some hk1) rfl rfl Try.underlying22 (by kernel_rfl) rfl) ?_
      refine wt_read rfl rfl rfl rfl (yl_field rfl rfl Try.underlying40 rfl (by kernel_rfl) rfl) ?_
      refine wt_read rfl rfl rfl rfl (yl_load rfl rfl Try.underlying4 rfl (hR.cell2 (at_some hk1) rfl)) ?_
      refine wt_read rfl rfl rfl rfl (yl_move rfl rfl) ?_
      refine wt_read rfl rfl rfl rfl (yl_move rfl rfl) ?_
      refine wt_read rfl rfl rfl rfl (yl_index rfl rfl rfl hR (at_some hk1) rfl rfl Try.underlying22 (by kernel_rfl) rfl) ?_
      refine wt_read rfl rfl rfl rfl (yl_field rfl rfl Try.underlying40 rfl (by kernel_rfl) rfl) ?_
      refine wt_read rfl rfl rfl rfl (yl_load rfl rfl Try.underlying4 rfl (hR.cell2 (at_some hk1) rfl)) ?_
      refine wt_read rfl rfl rfl rfl (yl_move rfl rfl) ?_
      refine wt_read rfl rfl rfl rfl (yl_move rfl rfl) ?_
      refine wt_read rfl rfl rfl rfl (yl_index rfl rfl rfl hR (at_some hk1) rfl rfl Try.underlying22 (by kernel_rfl) rfl) ?_
      refine wt_read rfl rfl rfl rfl (yl_field rfl rfl Try.underlying40 rfl (by kernel_rfl) rfl) ?_
      refine wt_read rfl rfl rfl rfl (yl_load rfl rfl Try.underlying3 rfl (hR.cell2 (at_some hk1) rfl)) ?_
      refine wt_call rfl rfl rfl rfl (en_call rfl rfl) (amount_fn _ _ _ hik) ?_
      rintro _ _ ⟨rfl, rfl⟩
      refine ⟨⟨[_], rfl⟩, ?_⟩
      refine wt_read rfl rfl rfl rfl (yl_build (cs := Enc.cells (stg l (md month 2359) k)) rfl rfl (fun _ => by kernel_rfl)) ?_
      refine wt_eff rfl rfl rfl rfl (ef_buildSlice (e := 37) [stg l (md month 2359) k] rfl rfl (fun _ => by kernel_rfl) rfl rfl) ?_
      rintro _ _ ⟨T6_21, rfl, rfl⟩
      refine ⟨⟨[_, _], rfl⟩, ?_⟩
      refine wt_eff rfl rfl rfl rfl (ef_append (ys := [stg l (md month 2359) k]) 1 rfl rfl rfl rfl (Rd.of_sl 0 rfl) Try.underlying23 info37 rfl rfl (by simp only [List.length_singleton, maxLen]; omega) (by simp only [List.length_singleton]; omega)) ?_
      rintro _ _ ⟨A2, c2, rfl, hH⟩
      simp only [List.set_cons_succ, List.set_cons_zero] at hH; subst hH
      refine ⟨⟨[_, _], rfl⟩, ?_⟩
      rw [← hsucc]
      refine wt_heap (fun _ hw => hw.tail) ?_
      refine wt_read rfl rfl rfl rfl (yl_assign rfl rfl) ?_
      refine wt_nil ?_
      refine at_keep (Keep.cons 0 rfl (Keep.cons 5 rfl (Keep.cons 6 rfl (Keep.cons 7 rfl (Keep.cons 17 rfl Keep.nil))))) ?_
      refine at_inBlock ?_
      refine at_region ?_
      refine wl_read rfl rfl rfl (yl_move rfl rfl) ?_
      refine wl_read rfl rfl rfl (yl_add rfl rfl rfl (w64 (by omega) (by omega))) ?_
      refine wl_read rfl rfl rfl (yl_assign rfl rfl) ?_
      refine wl_nil ?_
      refine at_keep (Keep.cons 0 rfl (Keep.cons 5 rfl (Keep.cons 6 rfl (Keep.cons 7 rfl (Keep.cons 17 rfl Keep.nil))))) ?_
      exact at_keep (L' := (fun A1 c1 k => [(0, .slice A l.length c), (5, .int .i64 (md month 2359)), (6, .slice A1 (stgs l (md month 2359) k).length c1), (7, .int .i64 (k : Int))]) A2 c2 (k + 1)) (Keep.consEq 0 rfl rfl (Keep.consEq 5 rfl rfl (Keep.consEq 6 rfl rfl (Keep.consEq 7 rfl rfl Keep.nil)))) (ih A2 c2 (k + 1) (by omega) (by omega))
    · intro h4_6
      refine wl_read rfl rfl rfl (yl_pickT rfl rfl rfl) ?_
      refine wl_nil ?_
      refine at_keep (Keep.cons 0 rfl (Keep.cons 5 rfl (Keep.cons 6 rfl (Keep.cons 7 rfl (Keep.cons 17 rfl Keep.nil))))) ?_
      refine at_false rfl ?_
      refine at_exit rfl ?_
      refine at_seq ?_
      refine at_region ?_
      refine wl_read rfl rfl rfl (yl_move rfl rfl) ?_
      refine wl_read rfl rfl rfl (yl_assign rfl rfl) ?_
      refine wl_nil ?_
      refine at_keep (Keep.cons 0 rfl (Keep.cons 4 rfl (Keep.cons 5 rfl (Keep.cons 6 rfl (Keep.cons 7 rfl (Keep.cons 17 rfl Keep.nil)))))) ?_
      refine at_ret Try.func14 (res1 rfl rfl) ?_
      have e : k = min l.length 30 := by omega
      exact ⟨A1, c1, by unfold stages; rw [← e], by unfold stages; rw [← e]⟩
  · intro h4_3
    refine wl_read rfl rfl rfl (yl_move rfl rfl) ?_
    refine wl_skip rfl rfl rfl ?_
    refine wl_skip rfl rfl rfl ?_
    refine wl_read rfl rfl rfl (yl_pickF rfl rfl rfl) ?_
    refine wl_nil ?_
    refine at_keep (Keep.cons 0 rfl (Keep.cons 5 rfl (Keep.cons 6 rfl (Keep.cons 7 rfl (Keep.cons 17 rfl Keep.nil))))) ?_
    refine at_false rfl ?_
    refine at_exit rfl ?_
    refine at_seq ?_
    refine at_region ?_
    refine wl_read rfl rfl rfl (yl_move rfl rfl) ?_
    refine wl_read rfl rfl rfl (yl_assign rfl rfl) ?_
    refine wl_nil ?_
    refine at_keep (Keep.cons 0 rfl (Keep.cons 4 rfl (Keep.cons 5 rfl (Keep.cons 6 rfl (Keep.cons 7 rfl (Keep.cons 17 rfl Keep.nil)))))) ?_
    refine at_ret Try.func14 (res1 rfl rfl) ?_
    have e : k = min l.length 30 := by omega
    exact ⟨A1, c1, by unfold stages; rw [← e], by unfold stages; rw [← e]⟩
theorem not_valid {s : List Stage} {k : Nat} (hk : k < s.length) (h : ¬ okSt s k) : ¬ Valid s := fun hv => h (hv.2 k hk)

theorem valid_fn (s : List Stage) (A : Option Addr) (c : Nat) (b : World) (H : List Asr) (hR : Rd H A s) (hl : s.length ≤ 140737488355328) :
    Fn Try.prog 25 [.slice A s.length c] b H (fun v H' => H = H' ∧ ∃ t, v = .bool t ∧ (t = true ↔ Valid s)) := by
  refine fn_of_at (by kernel_rfl) Try.func25 rfl Try.ntmps25 rfl rfl ?_
  refine at_seq ?_
  refine at_region ?_
  refine wl_read rfl rfl rfl (yl_assign rfl rfl) ?_
  refine wl_nil ?_
  refine at_keep (Keep.cons 0 rfl (Keep.cons 2 rfl Keep.nil)) ?_
  refine at_seq ?_
  refine at_seq ?_
  refine at_region ?_
  refine wl_read rfl rfl rfl (yl_move rfl rfl) ?_
  refine wl_read rfl rfl rfl (yl_len rfl rfl Try.underlying23) ?_
  refine wl_split rfl rfl rfl (yp_gtr rfl rfl rfl) ?_ ?_
  · intro h1_2
    refine wl_nil ?_
    refine at_keep (Keep.cons 0 rfl (Keep.cons 2 rfl (Keep.cons 7 rfl Keep.nil))) ?_
    refine at_true rfl ?_
    refine at_seq ?_
    refine at_region ?_
    refine wl_read rfl rfl rfl (yl_assign rfl rfl) ?_
    refine wl_nil ?_
    refine at_keep (Keep.cons 0 rfl (Keep.cons 2 rfl (Keep.cons 7 rfl Keep.nil))) ?_
    refine at_ret Try.func25 (res1 rfl rfl) ?_
    exact ⟨rfl, false, rfl, by simp [Valid]; omega⟩
  · intro h1_2
    refine wl_nil ?_
    refine at_keep (Keep.cons 0 rfl (Keep.cons 2 rfl (Keep.cons 7 rfl Keep.nil))) ?_
    refine at_false rfl ?_
    refine at_skip ?_
    refine at_seq ?_
    refine at_seq ?_
    refine at_region ?_
    refine wl_read rfl rfl rfl (yl_move rfl rfl) ?_
    refine wl_read rfl rfl rfl (yl_len rfl rfl Try.underlying23) ?_
    refine wl_read rfl rfl rfl (yl_move rfl rfl) ?_
    refine wl_nil ?_
    refine at_keep (Keep.cons 0 rfl (Keep.cons 2 rfl (Keep.cons 7 rfl (Keep.cons 8 rfl (Keep.cons 9 rfl (Keep.cons 10 rfl Keep.nil)))))) ?_
    refine at_block ?_
    refine at_keep (L' := (fun k => [(0, .slice A s.length c), (8, .slice A s.length c), (9, .int .i64 (s.length : Int)), (10, .int .i64 (k : Int))]) 0) (Keep.consEq 0 rfl rfl (Keep.consEq 8 rfl rfl (Keep.consEq 9 rfl rfl (Keep.consEq 10 rfl rfl Keep.nil)))) ?_
    refine at_loop1 (fun k => k ≤ s.length ∧ ∀ i, i < k → okSt s i) (fun k => [(0, .slice A s.length c), (8, .slice A s.length c), (9, .int .i64 (s.length : Int)), (10, .int .i64 (k : Int))]) (fun k => H) (fun k => s.length - k) 0 ⟨by omega, fun i hi => absurd hi (by omega)⟩ ?_
    intro k hI ih
    obtain ⟨hI1, hI2⟩ := hI
    have hI : k ≤ s.length ∧ ∀ i, i < k → okSt s i := ⟨hI1, hI2⟩
    refine at_seq ?_
    refine at_region ?_
    refine wl_split rfl rfl rfl (yp_lss rfl rfl rfl) ?_ ?_
    · intro h4_0
      refine wl_nil ?_
      refine at_keep (Keep.cons 0 rfl (Keep.cons 8 rfl (Keep.cons 9 rfl (Keep.cons 10 rfl (Keep.cons 11 rfl Keep.nil))))) ?_
      refine at_seq ?_
      refine at_true rfl ?_
      refine at_skip ?_
      refine at_seq ?_
      refine at_block ?_
      refine at_seq ?_
      have hk1 : k < s.length := by omega
      refine at_region ?_
      refine wl_read rfl rfl rfl (yl_move rfl rfl) ?_
      refine wl_read rfl rfl rfl (yl_index rfl rfl rfl hR (at_some hk1) rfl rfl Try.underlying23 (by kernel_rfl) rfl) ?_
      refine wl_read rfl rfl rfl (yl_loadRow rfl rfl hR (at_some hk1) Try.underlying37 rfl (by kernel_rfl) rfl) ?_
      refine wl_eff rfl rfl rfl (ef_alloc (cs := [.int .i64 0, .bool false, .bool false, .int .i64 0]) (z := .agg #[.int .i64 0, .bool false, .bool false, .int .i64 0]) rfl (by kernel_rfl) rfl) ?_
      rintro _ _ ⟨g5_3, rfl, rfl⟩
      refine wl_read rfl rfl rfl (yl_assign rfl rfl) ?_
      refine wl_store rfl rfl (es_at0 (es_storeN 0 rfl rfl rfl rfl (by kernel_rfl) rfl rfl)) ?_
      refine wl_nil ?_
      refine at_keep (Keep.cons 0 rfl (Keep.cons 3 rfl (Keep.cons 4 rfl (Keep.cons 8 rfl (Keep.cons 9 rfl (Keep.cons 10 rfl (Keep.cons 11 rfl Keep.nil))))))) ?_
      refine at_seq ?_
      refine at_draw0 (.fl 0 (.fl 1 (.fl 2 (.fl 3 (.fl 4 (.fl 5 (.fl 6 (.fl 7 (.fl 8 (.fl 9 (.fl 10 (.fl 11 (.fl 12 (.fl 13 (.fl 14 (.fl 15 (.fl 16 (.fl 17 (.fl 18 (.fl 19 (.fl 20 (.fl 21 (.fl 22 (.fl 23 (.fl 24 (.fl 25 (.fl 26 (.fl 27 (.fl 28 (.fl 29 (.fl 30 (.fl 31 (.fl 32 (.fl 33 .nil)))))))))))))))))))))))))))))))))) (by kernel_rfl) (by kernel_rfl) ?_
      refine wt_read rfl rfl rfl rfl (yl_fieldB rfl rfl Try.underlying37 rfl (by kernel_rfl) rfl) ?_
      refine wt_read rfl rfl rfl rfl (yl_load rfl rfl Try.underlying3 rfl (CellAt.bk 0 rfl rfl)) ?_
      refine wt_split rfl rfl rfl rfl (yp_lss rfl rfl rfl) ?_ ?_
      · intro h6_2
        refine wt_read rfl rfl rfl rfl (yl_move rfl rfl) ?_
        refine wt_skip rfl rfl rfl rfl ?_
        refine wt_skip rfl rfl rfl rfl ?_
        refine wt_skip rfl rfl rfl rfl ?_
        refine wt_read rfl rfl rfl rfl (yl_pickT rfl rfl rfl) ?_
        refine wt_read rfl rfl rfl rfl (yl_move rfl rfl) ?_
        refine wt_skip rfl rfl rfl rfl ?_
        refine wt_skip rfl rfl rfl rfl ?_
        refine wt_skip rfl rfl rfl rfl ?_
        refine wt_read rfl rfl rfl rfl (yl_pickT rfl rfl rfl) ?_
        refine wt_read rfl rfl rfl rfl (yl_move rfl rfl) ?_
        refine wt_skip rfl rfl rfl rfl ?_
        refine wt_skip rfl rfl rfl rfl ?_
        refine wt_skip rfl rfl rfl rfl ?_
        refine wt_read rfl rfl rfl rfl (yl_pickT rfl rfl rfl) ?_
        refine wt_read rfl rfl rfl rfl (yl_move rfl rfl) ?_
        refine wt_skip rfl rfl rfl rfl ?_
        refine wt_skip rfl rfl rfl rfl ?_
        refine wt_skip rfl rfl rfl rfl ?_
        refine wt_skip rfl rfl rfl rfl ?_
        refine wt_skip rfl rfl rfl rfl ?_
        refine wt_skip rfl rfl rfl rfl ?_
        refine wt_skip rfl rfl rfl rfl ?_
        refine wt_skip rfl rfl rfl rfl ?_
        refine wt_skip rfl rfl rfl rfl ?_
        refine wt_skip rfl rfl rfl rfl ?_
        refine wt_skip rfl rfl rfl rfl ?_
        refine wt_skip rfl rfl rfl rfl ?_
        refine wt_skip rfl rfl rfl rfl ?_
        refine wt_skip rfl rfl rfl rfl ?_
        refine wt_read rfl rfl rfl rfl (yl_pickT rfl rfl rfl) ?_
        refine wt_nil ?_
        refine at_keep (Keep.cons 0 rfl (Keep.cons 3 rfl (Keep.cons 4 rfl (Keep.cons 8 rfl (Keep.cons 9 rfl (Keep.cons 10 rfl (Keep.cons 11 rfl (Keep.cons 48 rfl Keep.nil)))))))) ?_
        refine at_true rfl ?_
        refine at_seq ?_
        refine at_heap (fun _ hw => hw.tail) ?_
        refine at_region ?_
        refine wl_read rfl rfl rfl (yl_assign rfl rfl) ?_
        refine wl_nil ?_
        refine at_keep (Keep.cons 0 rfl (Keep.cons 2 rfl (Keep.cons 3 rfl (Keep.cons 4 rfl (Keep.cons 8 rfl (Keep.cons 9 rfl (Keep.cons 10 rfl (Keep.cons 11 rfl (Keep.cons 48 rfl Keep.nil))))))))) ?_
        refine at_ret Try.func25 (res1 rfl rfl) ?_
        exact ⟨rfl, false, rfl, by simp only [Bool.false_eq_true, false_iff]; exact not_valid hk1 (by unfold okSt; omega)⟩
      · intro h6_2
        refine wt_read rfl rfl rfl rfl (yl_move rfl rfl) ?_
        refine wt_read rfl rfl rfl rfl (yl_fieldB rfl rfl Try.underlying37 rfl (by kernel_rfl) rfl) ?_
        refine wt_read rfl rfl rfl rfl (yl_load rfl rfl Try.underlying3 rfl (CellAt.bk 0 rfl rfl)) ?_
        refine wt_split rfl rfl rfl rfl (yp_gtr rfl rfl rfl) ?_ ?_
        · intro h6_6
          refine wt_read rfl rfl rfl rfl (yl_pickF rfl rfl rfl) ?_
          refine wt_read rfl rfl rfl rfl (yl_move rfl rfl) ?_
          refine wt_skip rfl rfl rfl rfl ?_
          refine wt_skip rfl rfl rfl rfl ?_
          refine wt_skip rfl rfl rfl rfl ?_
          refine wt_read rfl rfl rfl rfl (yl_pickT rfl rfl rfl) ?_
          refine wt_read rfl rfl rfl rfl (yl_move rfl rfl) ?_
          refine wt_skip rfl rfl rfl rfl ?_
          refine wt_skip rfl rfl rfl rfl ?_
          refine wt_skip rfl rfl rfl rfl ?_
          refine wt_read rfl rfl rfl rfl (yl_pickT rfl rfl rfl) ?_
          refine wt_read rfl rfl rfl rfl (yl_move rfl rfl) ?_
          refine wt_skip rfl rfl rfl rfl ?_
          refine wt_skip rfl rfl rfl rfl ?_
          refine wt_skip rfl rfl rfl rfl ?_
          refine wt_skip rfl rfl rfl rfl ?_
          refine wt_skip rfl rfl rfl rfl ?_
          refine wt_skip rfl rfl rfl rfl ?_
          refine wt_skip rfl rfl rfl rfl ?_
          refine wt_skip rfl rfl rfl rfl ?_
          refine wt_skip rfl rfl rfl rfl ?_
          refine wt_skip rfl rfl rfl rfl ?_
          refine wt_skip rfl rfl rfl rfl ?_
          refine wt_skip rfl rfl rfl rfl ?_
          refine wt_skip rfl rfl rfl rfl ?_
          refine wt_skip rfl rfl rfl rfl ?_
          refine wt_read rfl rfl rfl rfl (yl_pickT rfl rfl rfl) ?_
          refine wt_nil ?_
          refine at_keep (Keep.cons 0 rfl (Keep.cons 3 rfl (Keep.cons 4 rfl (Keep.cons 8 rfl (Keep.cons 9 rfl (Keep.cons 10 rfl (Keep.cons 11 rfl (Keep.cons 48 rfl Keep.nil)))))))) ?_
          refine at_true rfl ?_
          refine at_seq ?_
          refine at_heap (fun _ hw => hw.tail) ?_
          refine at_region ?_
          refine wl_read rfl rfl rfl (yl_assign rfl rfl) ?_
          refine wl_nil ?_
          refine at_keep (Keep.cons 0 rfl (Keep.cons 2 rfl (Keep.cons 3 rfl (Keep.cons 4 rfl (Keep.cons 8 rfl (Keep.cons 9 rfl (Keep.cons 10 rfl (Keep.cons 11 rfl (Keep.cons 48 rfl Keep.nil))))))))) ?_
          refine at_ret Try.func25 (res1 rfl rfl) ?_
          exact ⟨rfl, false, rfl, by simp only [Bool.false_eq_true, false_iff]; exact not_valid hk1 (by unfold okSt; omega)⟩
        · intro h6_6
          refine wt_read rfl rfl rfl rfl (yl_pickF rfl rfl rfl) ?_
          refine wt_read rfl rfl rfl rfl (yl_move rfl rfl) ?_
          refine wt_read rfl rfl rfl rfl (yl_fieldB rfl rfl Try.underlying37 rfl (by kernel_rfl) rfl) ?_
          refine wt_read rfl rfl rfl rfl (yl_load rfl rfl Try.underlying3 rfl (CellAt.bk 0 rfl rfl)) ?_
          refine wt_split rfl rfl rfl rfl (yp_lss rfl rfl rfl) ?_ ?_
          · intro h6_11
            refine wt_read rfl rfl rfl rfl (yl_pickF rfl rfl rfl) ?_
            refine wt_read rfl rfl rfl rfl (yl_move rfl rfl) ?_
            refine wt_skip rfl rfl rfl rfl ?_
            refine wt_skip rfl rfl rfl rfl ?_
            refine wt_skip rfl rfl rfl rfl ?_
            refine wt_read rfl rfl rfl rfl (yl_pickT rfl rfl rfl) ?_
            refine wt_read rfl rfl rfl rfl (yl_move rfl rfl) ?_
            refine wt_skip rfl rfl rfl rfl ?_
            refine wt_skip rfl rfl rfl rfl ?_
            refine wt_skip rfl rfl rfl rfl ?_
            refine wt_skip rfl rfl rfl rfl ?_
            refine wt_skip rfl rfl rfl rfl ?_
            refine wt_skip rfl rfl rfl rfl ?_
            refine wt_skip rfl rfl rfl rfl ?_
            refine wt_skip rfl rfl rfl rfl ?_
            refine wt_skip rfl rfl rfl rfl ?_
            refine wt_skip rfl rfl rfl rfl ?_
            refine wt_skip rfl rfl rfl rfl ?_
            refine wt_skip rfl rfl rfl rfl ?_
            refine wt_skip rfl rfl rfl rfl ?_
            refine wt_skip rfl rfl rfl rfl ?_
            refine wt_read rfl rfl rfl rfl (yl_pickT rfl rfl rfl) ?_
            refine wt_nil ?_
            refine at_keep (Keep.cons 0 rfl (Keep.cons 3 rfl (Keep.cons 4 rfl (Keep.cons 8 rfl (Keep.cons 9 rfl (Keep.cons 10 rfl (Keep.cons 11 rfl (Keep.cons 48 rfl Keep.nil)))))))) ?_
            refine at_true rfl ?_
            refine at_seq ?_
            refine at_heap (fun _ hw => hw.tail) ?_
            refine at_region ?_
            refine wl_read rfl rfl rfl (yl_assign rfl rfl) ?_
            refine wl_nil ?_
            refine at_keep (Keep.cons 0 rfl (Keep.cons 2 rfl (Keep.cons 3 rfl (Keep.cons 4 rfl (Keep.cons 8 rfl (Keep.cons 9 rfl (Keep.cons 10 rfl (Keep.cons 11 rfl (Keep.cons 48 rfl Keep.nil))))))))) ?_
            refine at_ret Try.func25 (res1 rfl rfl) ?_
            exact ⟨rfl, false, rfl, by simp only [Bool.false_eq_true, false_iff]; exact not_valid hk1 (by unfold okSt; omega)⟩
          · intro h6_11
            refine wt_read rfl rfl rfl rfl (yl_pickF rfl rfl rfl) ?_
            refine wt_read rfl rfl rfl rfl (yl_move rfl rfl) ?_
            refine wt_read rfl rfl rfl rfl (yl_fieldB rfl rfl Try.underlying37 rfl (by kernel_rfl) rfl) ?_
            refine wt_read rfl rfl rfl rfl (yl_load rfl rfl Try.underlying3 rfl (CellAt.bk 0 rfl rfl)) ?_
            refine wt_split rfl rfl rfl rfl (yp_gtr rfl rfl rfl) ?_ ?_
            · intro h6_16
              refine wt_read rfl rfl rfl rfl (yl_pickF rfl rfl rfl) ?_
              refine wt_read rfl rfl rfl rfl (yl_move rfl rfl) ?_
              refine wt_skip rfl rfl rfl rfl ?_
              refine wt_skip rfl rfl rfl rfl ?_
              refine wt_skip rfl rfl rfl rfl ?_
              refine wt_skip rfl rfl rfl rfl ?_
              refine wt_skip rfl rfl rfl rfl ?_
              refine wt_skip rfl rfl rfl rfl ?_
              refine wt_skip rfl rfl rfl rfl ?_
              refine wt_skip rfl rfl rfl rfl ?_
              refine wt_skip rfl rfl rfl rfl ?_
              refine wt_skip rfl rfl rfl rfl ?_
              refine wt_skip rfl rfl rfl rfl ?_
              refine wt_skip rfl rfl rfl rfl ?_
              refine wt_skip rfl rfl rfl rfl ?_
              refine wt_skip rfl rfl rfl rfl ?_
              refine wt_read rfl rfl rfl rfl (yl_pickT rfl rfl rfl) ?_
              refine wt_nil ?_
              refine at_keep (Keep.cons 0 rfl (Keep.cons 3 rfl (Keep.cons 4 rfl (Keep.cons 8 rfl (Keep.cons 9 rfl (Keep.cons 10 rfl (Keep.cons 11 rfl (Keep.cons 48 rfl Keep.nil)))))))) ?_
              refine at_true rfl ?_
              refine at_seq ?_
              refine at_heap (fun _ hw => hw.tail) ?_
              refine at_region ?_
              refine wl_read rfl rfl rfl (yl_assign rfl rfl) ?_
              refine wl_nil ?_
              refine at_keep (Keep.cons 0 rfl (Keep.cons 2 rfl (Keep.cons 3 rfl (Keep.cons 4 rfl (Keep.cons 8 rfl (Keep.cons 9 rfl (Keep.cons 10 rfl (Keep.cons 11 rfl (Keep.cons 48 rfl Keep.nil))))))))) ?_
              refine at_ret Try.func25 (res1 rfl rfl) ?_
              exact ⟨rfl, false, rfl, by simp only [Bool.false_eq_true, false_iff]; exact not_valid hk1 (by unfold okSt; omega)⟩
            · intro h6_16
              refine wt_read rfl rfl rfl rfl (yl_pickF rfl rfl rfl) ?_
              refine wt_read rfl rfl rfl rfl (yl_move rfl rfl) ?_
              refine wt_read rfl rfl rfl rfl (yl_move rfl rfl) ?_
              refine wt_split rfl rfl rfl rfl (yp_gtr rfl rfl rfl) ?_ ?_
              · intro h6_20
                refine wt_read rfl rfl rfl rfl (yl_move rfl rfl) ?_
                refine wt_read rfl rfl rfl rfl (yl_fieldB rfl rfl Try.underlying37 rfl (by kernel_rfl) rfl) ?_
                refine wt_read rfl rfl rfl rfl (yl_load rfl rfl Try.underlying3 rfl (CellAt.bk 0 rfl rfl)) ?_
                refine wt_read rfl rfl rfl rfl (yl_move rfl rfl) ?_
                refine wt_read rfl rfl rfl rfl (yl_move rfl rfl) ?_
                refine wt_read rfl rfl rfl rfl (yl_sub rfl rfl rfl (w64 (by omega) (by omega))) ?_
                refine wt_read rfl rfl rfl rfl (yl_index rfl rfl rfl (hR.cons _) (at_some (show k - 1 < s.length by omega)) (by omega) rfl Try.underlying23 (by kernel_rfl) rfl) ?_
                refine wt_read rfl rfl rfl rfl (yl_field rfl rfl Try.underlying37 rfl (by kernel_rfl) rfl) ?_
                refine wt_read rfl rfl rfl rfl (yl_load rfl rfl Try.underlying3 rfl ((hR.cons _).cell2 (at_some (show k - 1 < s.length by omega)) rfl)) ?_
                have hp : okSt s (k - 1) := hI2 (k - 1) (by omega)
                unfold okSt at hp
                refine wt_read rfl rfl rfl rfl (yl_add rfl rfl rfl (w64 (by omega) (by omega))) ?_
                refine wt_split rfl rfl rfl rfl (yp_neq rfl rfl rfl) ?_ ?_
                · intro h6_31
                  refine wt_read rfl rfl rfl rfl (yl_pickT rfl rfl rfl) ?_
                  refine wt_read rfl rfl rfl rfl (yl_pickF rfl rfl rfl) ?_
                  refine wt_nil ?_
                  refine at_keep (Keep.cons 0 rfl (Keep.cons 3 rfl (Keep.cons 4 rfl (Keep.cons 8 rfl (Keep.cons 9 rfl (Keep.cons 10 rfl (Keep.cons 11 rfl (Keep.cons 48 rfl Keep.nil)))))))) ?_
                  refine at_true rfl ?_
                  refine at_seq ?_
                  refine at_heap (fun _ hw => hw.tail) ?_
                  refine at_region ?_
                  refine wl_read rfl rfl rfl (yl_assign rfl rfl) ?_
                  refine wl_nil ?_
                  refine at_keep (Keep.cons 0 rfl (Keep.cons 2 rfl (Keep.cons 3 rfl (Keep.cons 4 rfl (Keep.cons 8 rfl (Keep.cons 9 rfl (Keep.cons 10 rfl (Keep.cons 11 rfl (Keep.cons 48 rfl Keep.nil))))))))) ?_
                  refine at_ret Try.func25 (res1 rfl rfl) ?_
                  exact ⟨rfl, false, rfl, by simp only [Bool.false_eq_true, false_iff]; exact not_valid hk1 (by unfold okSt; omega)⟩
                · intro h6_31
                  refine wt_read rfl rfl rfl rfl (yl_pickT rfl rfl rfl) ?_
                  refine wt_read rfl rfl rfl rfl (yl_pickF rfl rfl rfl) ?_
                  refine wt_nil ?_
                  refine at_keep (Keep.cons 0 rfl (Keep.cons 3 rfl (Keep.cons 4 rfl (Keep.cons 8 rfl (Keep.cons 9 rfl (Keep.cons 10 rfl (Keep.cons 11 rfl (Keep.cons 48 rfl Keep.nil)))))))) ?_
                  refine at_false rfl ?_
                  refine at_skip ?_
                  refine at_inBlock ?_
                  refine at_heap (fun _ hw => hw.tail) ?_
                  refine at_region ?_
                  refine wl_read rfl rfl rfl (yl_add rfl rfl rfl (w64 (by omega) (by omega))) ?_
                  refine wl_read rfl rfl rfl (yl_move rfl rfl) ?_
                  refine wl_nil ?_
                  refine at_keep (Keep.cons 0 rfl (Keep.cons 3 rfl (Keep.cons 4 rfl (Keep.cons 8 rfl (Keep.cons 9 rfl (Keep.cons 10 rfl (Keep.cons 11 rfl (Keep.cons 48 rfl Keep.nil)))))))) ?_
                  exact at_keep (L' := (fun k => [(0, .slice A s.length c), (8, .slice A s.length c), (9, .int .i64 (s.length : Int)), (10, .int .i64 (k : Int))]) (k + 1)) (Keep.consEq 0 rfl rfl (Keep.consEq 8 rfl rfl (Keep.consEq 9 rfl rfl (Keep.consEq 10 rfl rfl Keep.nil)))) (ih (k + 1) ⟨by omega, fun i hi => by
      rcases Nat.lt_or_ge i k with h | h
      · exact hI2 i h
      · have e : i = k := by omega
        subst e; unfold okSt; omega⟩ (by omega))
              · intro h6_20
                refine wt_read rfl rfl rfl rfl (yl_move rfl rfl) ?_
                refine wt_skip rfl rfl rfl rfl ?_
                refine wt_skip rfl rfl rfl rfl ?_
                refine wt_skip rfl rfl rfl rfl ?_
                refine wt_skip rfl rfl rfl rfl ?_
                refine wt_skip rfl rfl rfl rfl ?_
                refine wt_skip rfl rfl rfl rfl ?_
                refine wt_skip rfl rfl rfl rfl ?_
                refine wt_skip rfl rfl rfl rfl ?_
                refine wt_skip rfl rfl rfl rfl ?_
                refine wt_skip rfl rfl rfl rfl ?_
                refine wt_read rfl rfl rfl rfl (yl_pickF rfl rfl rfl) ?_
                refine wt_read rfl rfl rfl rfl (yl_pickF rfl rfl rfl) ?_
                refine wt_nil ?_
                refine at_keep (Keep.cons 0 rfl (Keep.cons 3 rfl (Keep.cons 4 rfl (Keep.cons 8 rfl (Keep.cons 9 rfl (Keep.cons 10 rfl (Keep.cons 11 rfl (Keep.cons 48 rfl Keep.nil)))))))) ?_
                refine at_false rfl ?_
                refine at_skip ?_
                refine at_inBlock ?_
                refine at_heap (fun _ hw => hw.tail) ?_
                refine at_region ?_
                refine wl_read rfl rfl rfl (yl_add rfl rfl rfl (w64 (by omega) (by omega))) ?_
                refine wl_read rfl rfl rfl (yl_move rfl rfl) ?_
                refine wl_nil ?_
                refine at_keep (Keep.cons 0 rfl (Keep.cons 3 rfl (Keep.cons 4 rfl (Keep.cons 8 rfl (Keep.cons 9 rfl (Keep.cons 10 rfl (Keep.cons 11 rfl (Keep.cons 48 rfl Keep.nil)))))))) ?_
                exact at_keep (L' := (fun k => [(0, .slice A s.length c), (8, .slice A s.length c), (9, .int .i64 (s.length : Int)), (10, .int .i64 (k : Int))]) (k + 1)) (Keep.consEq 0 rfl rfl (Keep.consEq 8 rfl rfl (Keep.consEq 9 rfl rfl (Keep.consEq 10 rfl rfl Keep.nil)))) (ih (k + 1) ⟨by omega, fun i hi => by
      rcases Nat.lt_or_ge i k with h | h
      · exact hI2 i h
      · have e : i = k := by omega
        subst e; unfold okSt; omega⟩ (by omega))
    · intro h4_0
      refine wl_nil ?_
      refine at_keep (Keep.cons 0 rfl (Keep.cons 8 rfl (Keep.cons 9 rfl (Keep.cons 10 rfl (Keep.cons 11 rfl Keep.nil))))) ?_
      refine at_seq ?_
      refine at_false rfl ?_
      refine at_exit rfl ?_
      refine at_seq ?_
      refine at_region ?_
      refine wl_read rfl rfl rfl (yl_assign rfl rfl) ?_
      refine wl_nil ?_
      refine at_keep (Keep.cons 0 rfl (Keep.cons 2 rfl (Keep.cons 8 rfl (Keep.cons 9 rfl (Keep.cons 10 rfl (Keep.cons 11 rfl Keep.nil)))))) ?_
      refine at_ret Try.func25 (res1 rfl rfl) ?_
      exact ⟨rfl, true, rfl, by simp only [true_iff]; exact ⟨by omega, fun i hi => hI.2 i (by omega)⟩⟩
end Go.Proofs.Yteckaphnapljnaa

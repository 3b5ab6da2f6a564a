/- Walks of the laws: protected amounts, never less, without change. -/
import Derived.Test.YteckaphnapljnaaE
import Derived.Test.YteckaphnapljnaaQ
namespace Go.Proofs.Yteckaphnapljnaa
open Go

theorem stages_fnS {l : List Raw} {s : List Stage} {A : Option Addr} {c : Nat} {month : Int} {b : World} {H : List Asr} (hs : s = stages l month) (hR : Rd H A l) (hl : l.length ≤ 140737488355328) (ha : ∀ i, i < l.length → I64 (at_ l i).amount) :
    Fn Try.prog 14 [.slice A l.length c, .int .i64 month] b H (fun v H' => ∃ A' c', v = .slice A' s.length c' ∧ H' = Sl A' c' 37 s :: H) := by
  subst hs; exact stages_fn l A c month b H hR hl ha

theorem law6 (l : List Raw) (A : Option Addr) (c : Nat) (month : Int) (b : World) (H : List Asr) (hR : Rd H A l) (hl : l.length ≤ 140737488355328) (ha : ∀ i, i < l.length → I64 (at_ l i).amount) : Fn Try.prog 6 [.slice A l.length c, .int .i64 month] b H (fun v H' => v = .bool true ∧ H = H') := by
  obtain ⟨s, hs⟩ : ∃ s, s = stages l month := ⟨_, rfl⟩
  have hv : Valid s := hs ▸ stages_valid l month
  have hl120 := hv.1
  refine fn_of_at (by kernel_rfl) Try.func6 rfl Try.ntmps6 rfl rfl ?_
  refine at_seq ?_
  refine at_region ?_
  refine wl_read rfl rfl rfl (yl_assign rfl rfl) ?_
  refine wl_nil ?_
  refine at_keep (Keep.cons 0 rfl (Keep.cons 1 rfl (Keep.cons 4 rfl Keep.nil))) ?_
  refine at_seq ?_
  refine at_region ?_
  refine wl_read rfl rfl rfl (yl_move rfl rfl) ?_
  refine wl_read rfl rfl rfl (yl_move rfl rfl) ?_
  refine wl_call rfl rfl rfl (en_call rfl rfl) (stages_fnS hs hR hl ha) ?_
  rintro _ _ ⟨A1, c1, rfl, rfl⟩
  refine wl_read rfl rfl rfl (yl_assign rfl rfl) ?_
  refine wl_nil ?_
  refine at_keep (Keep.cons 0 rfl (Keep.cons 1 rfl (Keep.cons 4 rfl (Keep.cons 5 rfl Keep.nil)))) ?_
  refine at_seq ?_
  refine at_region ?_
  refine wl_read rfl rfl rfl (yl_move rfl rfl) ?_
  refine wl_call rfl rfl rfl (en_call rfl rfl) (run_ok hv (Rd.of_sl 0 rfl)) ?_
  rintro _ _ ⟨A2, c2, rfl, rfl⟩
  refine wl_read rfl rfl rfl (yl_move rfl rfl) ?_
  refine wl_read rfl rfl rfl (yl_extract rfl rfl rfl) ?_
  refine wl_read rfl rfl rfl (yl_extract rfl rfl rfl) ?_
  refine wl_read rfl rfl rfl (yl_assign rfl rfl) ?_
  refine wl_read rfl rfl rfl (yl_assign rfl rfl) ?_
  refine wl_nil ?_
  refine at_keep (Keep.cons 0 rfl (Keep.cons 1 rfl (Keep.cons 4 rfl (Keep.cons 5 rfl (Keep.cons 6 rfl (Keep.cons 7 rfl Keep.nil)))))) ?_
  refine at_seq ?_
  refine at_seq ?_
  refine at_region ?_
  refine wl_call rfl rfl rfl (en_call rfl rfl) (awake_fn _ _) ?_
  rintro _ _ ⟨rfl, rfl⟩
  refine wl_read rfl rfl rfl (yl_notT rfl rfl) ?_
  refine wl_read rfl rfl rfl (yl_move rfl rfl) ?_
  refine wl_read rfl rfl rfl (yl_move rfl rfl) ?_
  refine wl_read rfl rfl rfl ((yp_neq rfl rfl rfl).2 (by simp)) ?_
  refine wl_read rfl rfl rfl (yl_pickF rfl rfl rfl) ?_
  refine wl_read rfl rfl rfl (yl_move rfl rfl) ?_
  refine wl_read rfl rfl rfl (yl_move rfl rfl) ?_
  refine wl_read rfl rfl rfl (yl_len rfl rfl Try.underlying25) ?_
  refine wl_read rfl rfl rfl (yl_move rfl rfl) ?_
  refine wl_read rfl rfl rfl (yl_len rfl rfl Try.underlying23) ?_
  refine wl_read rfl rfl rfl ((yp_neq rfl rfl rfl).2 (by rw [run_length]; simp)) ?_
  refine wl_read rfl rfl rfl (yl_pickF rfl rfl rfl) ?_
  refine wl_nil ?_
  refine at_keep (Keep.cons 0 rfl (Keep.cons 1 rfl (Keep.cons 4 rfl (Keep.cons 5 rfl (Keep.cons 6 rfl (Keep.cons 7 rfl (Keep.cons 29 rfl Keep.nil))))))) ?_
  refine at_false rfl ?_
  refine at_skip ?_
  refine at_seq ?_
  refine at_seq ?_
  refine at_region ?_
  refine wl_read rfl rfl rfl (yl_assign rfl rfl) ?_
  refine wl_nil ?_
  refine at_keep (Keep.cons 0 rfl (Keep.cons 1 rfl (Keep.cons 4 rfl (Keep.cons 5 rfl (Keep.cons 6 rfl (Keep.cons 7 rfl (Keep.cons 8 rfl (Keep.cons 29 rfl Keep.nil)))))))) ?_
  refine at_block ?_
  refine at_keep (L' := (fun (k : Nat) => [(5, .slice A1 s.length c1), (6, .slice A2 (run s).length c2), (8, .int .i64 (k : Int))]) 1) (Keep.consEq 5 rfl rfl (Keep.consEq 6 rfl rfl (Keep.consEq 8 rfl rfl Keep.nil))) ?_
  refine at_loop1 (fun (k : Nat) => 1 ≤ k) (fun (k : Nat) => [(5, .slice A1 s.length c1), (6, .slice A2 (run s).length c2), (8, .int .i64 (k : Int))]) (fun (k : Nat) => Sl A2 c2 32 (run s) :: Sl A1 c1 37 s :: H) (fun (k : Nat) => s.length - k) 1 (by omega) ?_
  intro k hI ih
  refine at_seq ?_
  refine at_seq ?_
  refine at_region ?_
  refine wl_read rfl rfl rfl (yl_move rfl rfl) ?_
  refine wl_read rfl rfl rfl (yl_move rfl rfl) ?_
  refine wl_read rfl rfl rfl (yl_len rfl rfl Try.underlying23) ?_
  refine wl_split rfl rfl rfl (yp_lss rfl rfl rfl) ?_ ?_
  · intro h6_3
    refine wl_nil ?_
    refine at_keep (Keep.cons 5 rfl (Keep.cons 6 rfl (Keep.cons 8 rfl (Keep.cons 33 rfl Keep.nil)))) ?_
    refine at_true rfl ?_
    refine at_skip ?_
    refine at_seq ?_
    refine at_block ?_
    refine at_seq ?_
    have hk1 : k < s.length := by omega
    refine at_draw0 (.fl 0 (.fl 1 (.fl 2 (.fl 3 (.fl 4 (.fl 5 (.fl 6 (.fl 7 (.fl 8 (.fl 9 (.fl 10 (.fl 11 (.fl 12 (.fl 13 (.fl 14 (.fl 15 (.fl 16 (.fl 17 (.fl 18 (.fl 19 (.fl 20 (.fl 21 (.fl 22 (.fl 23 (.fl 24 (.fl 25 (.fl 26 .nil))))))))))))))))))))))))))) (by kernel_rfl) (by kernel_rfl) ?_
    refine wt_read rfl rfl rfl rfl (yl_move rfl rfl) ?_
    refine wt_read rfl rfl rfl rfl (yl_move rfl rfl) ?_
    refine wt_read rfl rfl rfl rfl (yl_index rfl rfl rfl (Rd.of_sl 1 rfl) (at_some hk1) rfl rfl Try.underlying23 (by kernel_rfl) rfl) ?_
    refine wt_read rfl rfl rfl rfl (yl_field rfl rfl Try.underlying37 rfl (by kernel_rfl) rfl) ?_
    refine wt_splitB rfl rfl rfl rfl (yl_load rfl rfl Try.underlying4 rfl ((Rd.of_sl 1 rfl).cell2 (at_some hk1) rfl)) ?_ ?_
    · intro h8_4
      refine wt_read rfl rfl rfl rfl (yl_move rfl rfl) ?_
      refine wt_read rfl rfl rfl rfl (yl_move rfl rfl) ?_
      refine wt_read rfl rfl rfl rfl (yl_move rfl rfl) ?_
      refine wt_read rfl rfl rfl rfl (yl_index rfl rfl rfl (Rd.of_sl 1 rfl) (at_some hk1) rfl rfl Try.underlying23 (by kernel_rfl) rfl) ?_
      refine wt_read rfl rfl rfl rfl (yl_field rfl rfl Try.underlying37 rfl (by kernel_rfl) rfl) ?_
      refine wt_splitB rfl rfl rfl rfl (yl_load rfl rfl Try.underlying4 rfl ((Rd.of_sl 1 rfl).cell2 (at_some hk1) rfl)) ?_ ?_
      · intro h8_10
        refine wt_read rfl rfl rfl rfl (yl_notT rfl rfl) ?_
        refine wt_read rfl rfl rfl rfl (yl_pickT rfl rfl rfl) ?_
        refine wt_read rfl rfl rfl rfl (yl_move rfl rfl) ?_
        refine wt_skip rfl rfl rfl rfl ?_
        refine wt_skip rfl rfl rfl rfl ?_
        refine wt_skip rfl rfl rfl rfl ?_
        refine wt_skip rfl rfl rfl rfl ?_
        refine wt_skip rfl rfl rfl rfl ?_
        refine wt_skip rfl rfl rfl rfl ?_
        refine wt_skip rfl rfl rfl rfl ?_
        refine wt_skip rfl rfl rfl rfl ?_
        refine wt_skip rfl rfl rfl rfl ?_
        refine wt_skip rfl rfl rfl rfl ?_
        refine wt_skip rfl rfl rfl rfl ?_
        refine wt_skip rfl rfl rfl rfl ?_
        refine wt_read rfl rfl rfl rfl (yl_pickF rfl rfl rfl) ?_
        refine wt_nil ?_
        refine at_keep (Keep.cons 5 rfl (Keep.cons 6 rfl (Keep.cons 8 rfl (Keep.cons 33 rfl (Keep.cons 62 rfl Keep.nil))))) ?_
        refine at_false rfl ?_
        refine at_skip ?_
        refine at_inBlock ?_
        refine at_region ?_
        refine wl_read rfl rfl rfl (yl_move rfl rfl) ?_
        refine wl_read rfl rfl rfl (yl_add rfl rfl rfl (w64 (by omega) (by omega))) ?_
        refine wl_read rfl rfl rfl (yl_assign rfl rfl) ?_
        refine wl_nil ?_
        refine at_keep (Keep.cons 5 rfl (Keep.cons 6 rfl (Keep.cons 8 rfl (Keep.cons 33 rfl (Keep.cons 62 rfl Keep.nil))))) ?_
        exact at_keep (L' := (fun (k : Nat) => [(5, .slice A1 s.length c1), (6, .slice A2 (run s).length c2), (8, .int .i64 (k : Int))]) (k + 1)) (Keep.consEq 5 rfl rfl (Keep.consEq 6 rfl rfl (Keep.consEq 8 rfl rfl Keep.nil))) (ih (k + 1) (by omega) (by omega))
      · intro h8_10
        refine wt_read rfl rfl rfl rfl (yl_notF rfl rfl) ?_
        refine wt_read rfl rfl rfl rfl (yl_pickT rfl rfl rfl) ?_
        refine wt_read rfl rfl rfl rfl (yl_move rfl rfl) ?_
        refine wt_read rfl rfl rfl rfl (yl_move rfl rfl) ?_
        refine wt_read rfl rfl rfl rfl (yl_move rfl rfl) ?_
        refine wt_read rfl rfl rfl rfl (yl_index rfl rfl rfl (Rd.of_sl 0 rfl) (at_some (show k < (run s).length by rw [run_length]; exact hk1)) rfl rfl Try.underlying25 (by kernel_rfl) rfl) ?_
        refine wt_read rfl rfl rfl rfl (yl_field rfl rfl Try.underlying32 rfl (by kernel_rfl) rfl) ?_
        refine wt_read rfl rfl rfl rfl (yl_load rfl rfl Try.underlying3 rfl ((Rd.of_sl 0 rfl).cell2 (at_some (show k < (run s).length by rw [run_length]; exact hk1)) rfl)) ?_
        refine wt_read rfl rfl rfl rfl (yl_move rfl rfl) ?_
        refine wt_read rfl rfl rfl rfl (yl_move rfl rfl) ?_
        refine wt_read rfl rfl rfl rfl (yl_sub rfl rfl rfl (w64 (by omega) (by omega))) ?_
        refine wt_read rfl rfl rfl rfl (yl_index rfl rfl rfl (Rd.of_sl 0 rfl) (at_some (show k - 1 < (run s).length by rw [run_length]; omega)) (by omega) rfl Try.underlying25 (by kernel_rfl) rfl) ?_
        refine wt_read rfl rfl rfl rfl (yl_field rfl rfl Try.underlying32 rfl (by kernel_rfl) rfl) ?_
        refine wt_read rfl rfl rfl rfl (yl_load rfl rfl Try.underlying3 rfl ((Rd.of_sl 0 rfl).cell2 (at_some (show k - 1 < (run s).length by rw [run_length]; omega)) rfl)) ?_
        have hp := protects s (by omega) hk1 h8_4 h8_10
        refine wt_read rfl rfl rfl rfl ((yp_lss rfl rfl rfl).2 (by omega)) ?_
        refine wt_read rfl rfl rfl rfl (yl_pickT rfl rfl rfl) ?_
        refine wt_nil ?_
        refine at_keep (Keep.cons 5 rfl (Keep.cons 6 rfl (Keep.cons 8 rfl (Keep.cons 33 rfl (Keep.cons 62 rfl Keep.nil))))) ?_
        refine at_false rfl ?_
        refine at_skip ?_
        refine at_inBlock ?_
        refine at_region ?_
        refine wl_read rfl rfl rfl (yl_move rfl rfl) ?_
        refine wl_read rfl rfl rfl (yl_add rfl rfl rfl (w64 (by omega) (by omega))) ?_
        refine wl_read rfl rfl rfl (yl_assign rfl rfl) ?_
        refine wl_nil ?_
        refine at_keep (Keep.cons 5 rfl (Keep.cons 6 rfl (Keep.cons 8 rfl (Keep.cons 33 rfl (Keep.cons 62 rfl Keep.nil))))) ?_
        exact at_keep (L' := (fun (k : Nat) => [(5, .slice A1 s.length c1), (6, .slice A2 (run s).length c2), (8, .int .i64 (k : Int))]) (k + 1)) (Keep.consEq 5 rfl rfl (Keep.consEq 6 rfl rfl (Keep.consEq 8 rfl rfl Keep.nil))) (ih (k + 1) (by omega) (by omega))
    · intro h8_4
      refine wt_read rfl rfl rfl rfl (yl_move rfl rfl) ?_
      refine wt_skip rfl rfl rfl rfl ?_
      refine wt_skip rfl rfl rfl rfl ?_
      refine wt_skip rfl rfl rfl rfl ?_
      refine wt_skip rfl rfl rfl rfl ?_
      refine wt_skip rfl rfl rfl rfl ?_
      refine wt_skip rfl rfl rfl rfl ?_
      refine wt_read rfl rfl rfl rfl (yl_pickF rfl rfl rfl) ?_
      refine wt_read rfl rfl rfl rfl (yl_move rfl rfl) ?_
      refine wt_skip rfl rfl rfl rfl ?_
      refine wt_skip rfl rfl rfl rfl ?_
      refine wt_skip rfl rfl rfl rfl ?_
      refine wt_skip rfl rfl rfl rfl ?_
      refine wt_skip rfl rfl rfl rfl ?_
      refine wt_skip rfl rfl rfl rfl ?_
      refine wt_skip rfl rfl rfl rfl ?_
      refine wt_skip rfl rfl rfl rfl ?_
      refine wt_skip rfl rfl rfl rfl ?_
      refine wt_skip rfl rfl rfl rfl ?_
      refine wt_skip rfl rfl rfl rfl ?_
      refine wt_skip rfl rfl rfl rfl ?_
      refine wt_read rfl rfl rfl rfl (yl_pickF rfl rfl rfl) ?_
      refine wt_nil ?_
      refine at_keep (Keep.cons 5 rfl (Keep.cons 6 rfl (Keep.cons 8 rfl (Keep.cons 33 rfl (Keep.cons 62 rfl Keep.nil))))) ?_
      refine at_false rfl ?_
      refine at_skip ?_
      refine at_inBlock ?_
      refine at_region ?_
      refine wl_read rfl rfl rfl (yl_move rfl rfl) ?_
      refine wl_read rfl rfl rfl (yl_add rfl rfl rfl (w64 (by omega) (by omega))) ?_
      refine wl_read rfl rfl rfl (yl_assign rfl rfl) ?_
      refine wl_nil ?_
      refine at_keep (Keep.cons 5 rfl (Keep.cons 6 rfl (Keep.cons 8 rfl (Keep.cons 33 rfl (Keep.cons 62 rfl Keep.nil))))) ?_
      exact at_keep (L' := (fun (k : Nat) => [(5, .slice A1 s.length c1), (6, .slice A2 (run s).length c2), (8, .int .i64 (k : Int))]) (k + 1)) (Keep.consEq 5 rfl rfl (Keep.consEq 6 rfl rfl (Keep.consEq 8 rfl rfl Keep.nil))) (ih (k + 1) (by omega) (by omega))
  · intro h6_3
    refine wl_nil ?_
    refine at_keep (Keep.cons 5 rfl (Keep.cons 6 rfl (Keep.cons 8 rfl (Keep.cons 33 rfl Keep.nil)))) ?_
    refine at_false rfl ?_
    refine at_exit rfl ?_
    refine at_seq ?_
    refine at_region ?_
    refine wl_read rfl rfl rfl (yl_assign rfl rfl) ?_
    refine wl_nil ?_
    refine at_keep (Keep.cons 4 rfl (Keep.cons 5 rfl (Keep.cons 6 rfl (Keep.cons 8 rfl (Keep.cons 33 rfl Keep.nil))))) ?_
    refine at_retH (fun _ hw => hw.tail.tail) Try.func6 (res1 rfl rfl) ?_
    exact ⟨rfl, rfl⟩
theorem law7 (l : List Raw) (A : Option Addr) (c : Nat) (month : Int) (b : World) (H : List Asr) (hR : Rd H A l) (hl : l.length ≤ 140737488355328) (ha : ∀ i, i < l.length → I64 (at_ l i).amount) : Fn Try.prog 7 [.slice A l.length c, .int .i64 month] b H (fun v H' => v = .bool true ∧ H = H') := by
  obtain ⟨s, hs⟩ : ∃ s, s = stages l month := ⟨_, rfl⟩
  have hv : Valid s := hs ▸ stages_valid l month
  have hl120 := hv.1
  refine fn_of_at (by kernel_rfl) Try.func7 rfl Try.ntmps7 rfl rfl ?_
  refine at_seq ?_
  refine at_region ?_
  refine wl_read rfl rfl rfl (yl_assign rfl rfl) ?_
  refine wl_nil ?_
  refine at_keep (Keep.cons 0 rfl (Keep.cons 1 rfl (Keep.cons 4 rfl Keep.nil))) ?_
  refine at_seq ?_
  refine at_region ?_
  refine wl_read rfl rfl rfl (yl_move rfl rfl) ?_
  refine wl_read rfl rfl rfl (yl_move rfl rfl) ?_
  refine wl_call rfl rfl rfl (en_call rfl rfl) (stages_fnS hs hR hl ha) ?_
  rintro _ _ ⟨A1, c1, rfl, rfl⟩
  refine wl_read rfl rfl rfl (yl_assign rfl rfl) ?_
  refine wl_nil ?_
  refine at_keep (Keep.cons 0 rfl (Keep.cons 1 rfl (Keep.cons 4 rfl (Keep.cons 5 rfl Keep.nil)))) ?_
  refine at_seq ?_
  refine at_region ?_
  refine wl_read rfl rfl rfl (yl_move rfl rfl) ?_
  refine wl_call rfl rfl rfl (en_call rfl rfl) (run_ok hv (Rd.of_sl 0 rfl)) ?_
  rintro _ _ ⟨A2, c2, rfl, rfl⟩
  refine wl_read rfl rfl rfl (yl_move rfl rfl) ?_
  refine wl_read rfl rfl rfl (yl_extract rfl rfl rfl) ?_
  refine wl_read rfl rfl rfl (yl_extract rfl rfl rfl) ?_
  refine wl_read rfl rfl rfl (yl_assign rfl rfl) ?_
  refine wl_read rfl rfl rfl (yl_assign rfl rfl) ?_
  refine wl_nil ?_
  refine at_keep (Keep.cons 0 rfl (Keep.cons 1 rfl (Keep.cons 4 rfl (Keep.cons 5 rfl (Keep.cons 6 rfl (Keep.cons 7 rfl Keep.nil)))))) ?_
  refine at_seq ?_
  refine at_seq ?_
  refine at_region ?_
  refine wl_call rfl rfl rfl (en_call rfl rfl) (awake_fn _ _) ?_
  rintro _ _ ⟨rfl, rfl⟩
  refine wl_read rfl rfl rfl (yl_notT rfl rfl) ?_
  refine wl_read rfl rfl rfl (yl_move rfl rfl) ?_
  refine wl_read rfl rfl rfl (yl_move rfl rfl) ?_
  refine wl_read rfl rfl rfl ((yp_neq rfl rfl rfl).2 (by simp)) ?_
  refine wl_read rfl rfl rfl (yl_pickF rfl rfl rfl) ?_
  refine wl_read rfl rfl rfl (yl_move rfl rfl) ?_
  refine wl_read rfl rfl rfl (yl_move rfl rfl) ?_
  refine wl_read rfl rfl rfl (yl_len rfl rfl Try.underlying25) ?_
  refine wl_read rfl rfl rfl (yl_move rfl rfl) ?_
  refine wl_read rfl rfl rfl (yl_len rfl rfl Try.underlying23) ?_
  refine wl_read rfl rfl rfl ((yp_neq rfl rfl rfl).2 (by rw [run_length]; simp)) ?_
  refine wl_read rfl rfl rfl (yl_pickF rfl rfl rfl) ?_
  refine wl_nil ?_
  refine at_keep (Keep.cons 0 rfl (Keep.cons 1 rfl (Keep.cons 4 rfl (Keep.cons 5 rfl (Keep.cons 6 rfl (Keep.cons 7 rfl (Keep.cons 29 rfl Keep.nil))))))) ?_
  refine at_false rfl ?_
  refine at_skip ?_
  refine at_seq ?_
  refine at_seq ?_
  refine at_region ?_
  refine wl_read rfl rfl rfl (yl_assign rfl rfl) ?_
  refine wl_nil ?_
  refine at_keep (Keep.cons 0 rfl (Keep.cons 1 rfl (Keep.cons 4 rfl (Keep.cons 5 rfl (Keep.cons 6 rfl (Keep.cons 7 rfl (Keep.cons 8 rfl (Keep.cons 29 rfl Keep.nil)))))))) ?_
  refine at_block ?_
  refine at_keep (L' := (fun (k : Nat) => [(5, .slice A1 s.length c1), (6, .slice A2 (run s).length c2), (8, .int .i64 (k : Int))]) 0) (Keep.consEq 5 rfl rfl (Keep.consEq 6 rfl rfl (Keep.consEq 8 rfl rfl Keep.nil))) ?_
  refine at_loop1 (fun (k : Nat) => True) (fun (k : Nat) => [(5, .slice A1 s.length c1), (6, .slice A2 (run s).length c2), (8, .int .i64 (k : Int))]) (fun (k : Nat) => Sl A2 c2 32 (run s) :: Sl A1 c1 37 s :: H) (fun (k : Nat) => s.length - k) 0 trivial ?_
  intro k hI ih
  refine at_seq ?_
  refine at_seq ?_
  refine at_region ?_
  refine wl_read rfl rfl rfl (yl_move rfl rfl) ?_
  refine wl_read rfl rfl rfl (yl_move rfl rfl) ?_
  refine wl_read rfl rfl rfl (yl_len rfl rfl Try.underlying23) ?_
  refine wl_split rfl rfl rfl (yp_lss rfl rfl rfl) ?_ ?_
  · intro h6_3
    refine wl_nil ?_
    refine at_keep (Keep.cons 5 rfl (Keep.cons 6 rfl (Keep.cons 8 rfl (Keep.cons 33 rfl Keep.nil)))) ?_
    refine at_true rfl ?_
    refine at_skip ?_
    refine at_seq ?_
    refine at_block ?_
    refine at_seq ?_
    refine at_seq ?_
    have hk1 : k < s.length := by omega
    refine at_draw0 (.fl 0 (.fl 1 (.fl 2 (.fl 3 (.fl 4 (.fl 5 (.fl 6 (.fl 7 (.fl 8 (.fl 9 (.fl 10 .nil))))))))))) (by kernel_rfl) (by kernel_rfl) ?_
    refine wt_read rfl rfl rfl rfl (yl_move rfl rfl) ?_
    refine wt_read rfl rfl rfl rfl (yl_move rfl rfl) ?_
    refine wt_read rfl rfl rfl rfl (yl_index rfl rfl rfl (Rd.of_sl 0 rfl) (at_some (show k < (run s).length by rw [run_length]; exact hk1)) rfl rfl Try.underlying25 (by kernel_rfl) rfl) ?_
    refine wt_read rfl rfl rfl rfl (yl_field rfl rfl Try.underlying32 rfl (by kernel_rfl) rfl) ?_
    refine wt_read rfl rfl rfl rfl (yl_load rfl rfl Try.underlying3 rfl ((Rd.of_sl 0 rfl).cell2 (at_some (show k < (run s).length by rw [run_length]; exact hk1)) rfl)) ?_
    refine wt_read rfl rfl rfl rfl (yl_move rfl rfl) ?_
    refine wt_read rfl rfl rfl rfl (yl_move rfl rfl) ?_
    refine wt_read rfl rfl rfl rfl (yl_index rfl rfl rfl (Rd.of_sl 1 rfl) (at_some hk1) rfl rfl Try.underlying23 (by kernel_rfl) rfl) ?_
    refine wt_read rfl rfl rfl rfl (yl_field rfl rfl Try.underlying37 rfl (by kernel_rfl) rfl) ?_
    refine wt_read rfl rfl rfl rfl (yl_load rfl rfl Try.underlying3 rfl ((Rd.of_sl 1 rfl).cell2 (at_some hk1) rfl)) ?_
    refine wt_read rfl rfl rfl rfl ((yp_neq rfl rfl rfl).2 (by rw [run_month s hk1]; simp)) ?_
    refine wt_nil ?_
    refine at_keep (Keep.cons 5 rfl (Keep.cons 6 rfl (Keep.cons 8 rfl (Keep.cons 33 rfl (Keep.cons 46 rfl Keep.nil))))) ?_
    refine at_false rfl ?_
    refine at_skip ?_
    refine at_seq ?_
    refine at_seq ?_
    refine at_region ?_
    refine wl_read rfl rfl rfl (yl_move rfl rfl) ?_
    refine wl_read rfl rfl rfl (yl_move rfl rfl) ?_
    refine wl_read rfl rfl rfl (yl_index rfl rfl rfl (Rd.of_sl 1 rfl) (at_some hk1) rfl rfl Try.underlying23 (by kernel_rfl) rfl) ?_
    refine wl_read rfl rfl rfl (yl_field rfl rfl Try.underlying37 rfl (by kernel_rfl) rfl) ?_
    refine wl_splitB rfl rfl rfl (yl_load rfl rfl Try.underlying4 rfl ((Rd.of_sl 1 rfl).cell2 (at_some hk1) rfl)) ?_ ?_
    · intro h10_4
      refine wl_nil ?_
      refine at_keep (Keep.cons 5 rfl (Keep.cons 6 rfl (Keep.cons 8 rfl (Keep.cons 33 rfl (Keep.cons 46 rfl (Keep.cons 51 rfl Keep.nil)))))) ?_
      refine at_true rfl ?_
      refine at_seq ?_
      refine at_seq ?_
      refine at_region ?_
      refine wl_read rfl rfl rfl (yl_move rfl rfl) ?_
      refine wl_read rfl rfl rfl (yl_move rfl rfl) ?_
      refine wl_read rfl rfl rfl (yl_index rfl rfl rfl (Rd.of_sl 0 rfl) (at_some (show k < (run s).length by rw [run_length]; exact hk1)) rfl rfl Try.underlying25 (by kernel_rfl) rfl) ?_
      refine wl_read rfl rfl rfl (yl_field rfl rfl Try.underlying32 rfl (by kernel_rfl) rfl) ?_
      refine wl_read rfl rfl rfl (yl_load rfl rfl Try.underlying3 rfl ((Rd.of_sl 0 rfl).cell2 (at_some (show k < (run s).length by rw [run_length]; exact hk1)) rfl)) ?_
      refine wl_read rfl rfl rfl ((yp_neq rfl rfl rfl).2 (by rw [(run_ends s hk1 h10_4).1]; simp)) ?_
      refine wl_read rfl rfl rfl (yl_move rfl rfl) ?_
      refine wl_read rfl rfl rfl (yl_move rfl rfl) ?_
      refine wl_read rfl rfl rfl (yl_move rfl rfl) ?_
      refine wl_read rfl rfl rfl (yl_index rfl rfl rfl (Rd.of_sl 0 rfl) (at_some (show k < (run s).length by rw [run_length]; exact hk1)) rfl rfl Try.underlying25 (by kernel_rfl) rfl) ?_
      refine wl_read rfl rfl rfl (yl_field rfl rfl Try.underlying32 rfl (by kernel_rfl) rfl) ?_
      refine wl_read rfl rfl rfl (yl_boolF (yl_load rfl rfl Try.underlying4 rfl ((Rd.of_sl 0 rfl).cell2 (at_some (show k < (run s).length by rw [run_length]; exact hk1)) rfl)) (run_ends s hk1 h10_4).2) ?_
      refine wl_read rfl rfl rfl (yl_pickF rfl rfl rfl) ?_
      refine wl_nil ?_
      refine at_keep (Keep.cons 5 rfl (Keep.cons 6 rfl (Keep.cons 8 rfl (Keep.cons 33 rfl (Keep.cons 46 rfl (Keep.cons 51 rfl (Keep.cons 64 rfl Keep.nil))))))) ?_
      refine at_false rfl ?_
      refine at_skip ?_
      refine at_exit rfl ?_
      refine at_region ?_
      refine wl_read rfl rfl rfl (yl_move rfl rfl) ?_
      refine wl_read rfl rfl rfl (yl_add rfl rfl rfl (w64 (by omega) (by omega))) ?_
      refine wl_read rfl rfl rfl (yl_assign rfl rfl) ?_
      refine wl_nil ?_
      refine at_keep (Keep.cons 5 rfl (Keep.cons 6 rfl (Keep.cons 8 rfl (Keep.cons 33 rfl (Keep.cons 46 rfl (Keep.cons 51 rfl (Keep.cons 64 rfl Keep.nil))))))) ?_
      exact at_keep (L' := (fun (k : Nat) => [(5, .slice A1 s.length c1), (6, .slice A2 (run s).length c2), (8, .int .i64 (k : Int))]) (k + 1)) (Keep.consEq 5 rfl rfl (Keep.consEq 6 rfl rfl (Keep.consEq 8 rfl rfl Keep.nil))) (ih (k + 1) trivial (by omega))
    · intro h10_4
      refine wl_nil ?_
      refine at_keep (Keep.cons 5 rfl (Keep.cons 6 rfl (Keep.cons 8 rfl (Keep.cons 33 rfl (Keep.cons 46 rfl (Keep.cons 51 rfl Keep.nil)))))) ?_
      refine at_false rfl ?_
      refine at_skip ?_
      refine at_seq ?_
      have hg := run_goes s hk1 h10_4
      refine at_draw0 (.fl 0 (.fl 1 (.fl 2 (.fl 3 (.fl 4 (.fl 5 (.fl 6 (.fl 7 (.fl 8 (.fl 9 (.fl 10 (.fl 11 (.fl 12 (.fl 13 (.fl 14 (.fl 15 (.fl 16 (.fl 17 (.fl 18 (.fl 19 (.fl 20 (.fl 21 (.fl 22 (.fl 23 (.fl 24 (.fl 25 (.fl 26 (.fl 27 (.fl 28 (.fl 29 .nil)))))))))))))))))))))))))))))) (by kernel_rfl) (by kernel_rfl) ?_
      refine wt_read rfl rfl rfl rfl (yl_move rfl rfl) ?_
      refine wt_read rfl rfl rfl rfl (yl_move rfl rfl) ?_
      refine wt_read rfl rfl rfl rfl (yl_index rfl rfl rfl (Rd.of_sl 0 rfl) (at_some (show k < (run s).length by rw [run_length]; exact hk1)) rfl rfl Try.underlying25 (by kernel_rfl) rfl) ?_
      refine wt_read rfl rfl rfl rfl (yl_field rfl rfl Try.underlying32 rfl (by kernel_rfl) rfl) ?_
      refine wt_read rfl rfl rfl rfl (yl_load rfl rfl Try.underlying3 rfl ((Rd.of_sl 0 rfl).cell2 (at_some (show k < (run s).length by rw [run_length]; exact hk1)) rfl)) ?_
      refine wt_read rfl rfl rfl rfl (yl_move rfl rfl) ?_
      refine wt_read rfl rfl rfl rfl (yl_move rfl rfl) ?_
      refine wt_read rfl rfl rfl rfl (yl_index rfl rfl rfl (Rd.of_sl 1 rfl) (at_some hk1) rfl rfl Try.underlying23 (by kernel_rfl) rfl) ?_
      refine wt_read rfl rfl rfl rfl (yl_field rfl rfl Try.underlying37 rfl (by kernel_rfl) rfl) ?_
      refine wt_read rfl rfl rfl rfl (yl_load rfl rfl Try.underlying3 rfl ((Rd.of_sl 1 rfl).cell2 (at_some hk1) rfl)) ?_
      refine wt_read rfl rfl rfl rfl ((yp_lss rfl rfl rfl).2 (by omega)) ?_
      refine wt_read rfl rfl rfl rfl (yl_move rfl rfl) ?_
      refine wt_read rfl rfl rfl rfl (yl_move rfl rfl) ?_
      refine wt_read rfl rfl rfl rfl (yl_move rfl rfl) ?_
      refine wt_read rfl rfl rfl rfl (yl_index rfl rfl rfl (Rd.of_sl 0 rfl) (at_some (show k < (run s).length by rw [run_length]; exact hk1)) rfl rfl Try.underlying25 (by kernel_rfl) rfl) ?_
      refine wt_read rfl rfl rfl rfl (yl_field rfl rfl Try.underlying32 rfl (by kernel_rfl) rfl) ?_
      refine wt_read rfl rfl rfl rfl (yl_load rfl rfl Try.underlying4 rfl ((Rd.of_sl 0 rfl).cell2 (at_some (show k < (run s).length by rw [run_length]; exact hk1)) rfl)) ?_
      refine wt_read rfl rfl rfl rfl (yl_move rfl rfl) ?_
      refine wt_read rfl rfl rfl rfl (yl_move rfl rfl) ?_
      refine wt_read rfl rfl rfl rfl (yl_index rfl rfl rfl (Rd.of_sl 0 rfl) (at_some (show k < (run s).length by rw [run_length]; exact hk1)) rfl rfl Try.underlying25 (by kernel_rfl) rfl) ?_
      refine wt_read rfl rfl rfl rfl (yl_field rfl rfl Try.underlying32 rfl (by kernel_rfl) rfl) ?_
      refine wt_read rfl rfl rfl rfl (yl_load rfl rfl Try.underlying3 rfl ((Rd.of_sl 0 rfl).cell2 (at_some (show k < (run s).length by rw [run_length]; exact hk1)) rfl)) ?_
      refine wt_read rfl rfl rfl rfl (yl_move rfl rfl) ?_
      refine wt_read rfl rfl rfl rfl (yl_move rfl rfl) ?_
      refine wt_read rfl rfl rfl rfl (yl_index rfl rfl rfl (Rd.of_sl 1 rfl) (at_some hk1) rfl rfl Try.underlying23 (by kernel_rfl) rfl) ?_
      refine wt_read rfl rfl rfl rfl (yl_field rfl rfl Try.underlying37 rfl (by kernel_rfl) rfl) ?_
      refine wt_read rfl rfl rfl rfl (yl_load rfl rfl Try.underlying3 rfl ((Rd.of_sl 1 rfl).cell2 (at_some hk1) rfl)) ?_
      refine wt_split rfl rfl rfl rfl (yp_gtr rfl rfl rfl) ?_ ?_
      · intro h13_27
        refine wt_read rfl rfl rfl rfl ((yp_neb rfl rfl rfl Try.underlying4).2 (by rw [hg.2.2 h13_27]; simp)) ?_
        refine wt_read rfl rfl rfl rfl (yl_pickF rfl rfl rfl) ?_
        refine wt_nil ?_
        refine at_keep (Keep.cons 5 rfl (Keep.cons 6 rfl (Keep.cons 8 rfl (Keep.cons 33 rfl (Keep.cons 46 rfl (Keep.cons 51 rfl (Keep.cons 94 rfl Keep.nil))))))) ?_
        refine at_false rfl ?_
        refine at_skip ?_
        refine at_inBlock ?_
        refine at_region ?_
        refine wl_read rfl rfl rfl (yl_move rfl rfl) ?_
        refine wl_read rfl rfl rfl (yl_add rfl rfl rfl (w64 (by omega) (by omega))) ?_
        refine wl_read rfl rfl rfl (yl_assign rfl rfl) ?_
        refine wl_nil ?_
        refine at_keep (Keep.cons 5 rfl (Keep.cons 6 rfl (Keep.cons 8 rfl (Keep.cons 33 rfl (Keep.cons 46 rfl (Keep.cons 51 rfl (Keep.cons 94 rfl Keep.nil))))))) ?_
        exact at_keep (L' := (fun (k : Nat) => [(5, .slice A1 s.length c1), (6, .slice A2 (run s).length c2), (8, .int .i64 (k : Int))]) (k + 1)) (Keep.consEq 5 rfl rfl (Keep.consEq 6 rfl rfl (Keep.consEq 8 rfl rfl Keep.nil))) (ih (k + 1) trivial (by omega))
      · intro h13_27
        refine wt_read rfl rfl rfl rfl ((yp_neb rfl rfl rfl Try.underlying4).2 (by have hn := mt hg.2.1 h13_27; simp at hn; simp [hn])) ?_
        refine wt_read rfl rfl rfl rfl (yl_pickF rfl rfl rfl) ?_
        refine wt_nil ?_
        refine at_keep (Keep.cons 5 rfl (Keep.cons 6 rfl (Keep.cons 8 rfl (Keep.cons 33 rfl (Keep.cons 46 rfl (Keep.cons 51 rfl (Keep.cons 94 rfl Keep.nil))))))) ?_
        refine at_false rfl ?_
        refine at_skip ?_
        refine at_inBlock ?_
        refine at_region ?_
        refine wl_read rfl rfl rfl (yl_move rfl rfl) ?_
        refine wl_read rfl rfl rfl (yl_add rfl rfl rfl (w64 (by omega) (by omega))) ?_
        refine wl_read rfl rfl rfl (yl_assign rfl rfl) ?_
        refine wl_nil ?_
        refine at_keep (Keep.cons 5 rfl (Keep.cons 6 rfl (Keep.cons 8 rfl (Keep.cons 33 rfl (Keep.cons 46 rfl (Keep.cons 51 rfl (Keep.cons 94 rfl Keep.nil))))))) ?_
        exact at_keep (L' := (fun (k : Nat) => [(5, .slice A1 s.length c1), (6, .slice A2 (run s).length c2), (8, .int .i64 (k : Int))]) (k + 1)) (Keep.consEq 5 rfl rfl (Keep.consEq 6 rfl rfl (Keep.consEq 8 rfl rfl Keep.nil))) (ih (k + 1) trivial (by omega))
  · intro h6_3
    refine wl_nil ?_
    refine at_keep (Keep.cons 5 rfl (Keep.cons 6 rfl (Keep.cons 8 rfl (Keep.cons 33 rfl Keep.nil)))) ?_
    refine at_false rfl ?_
    refine at_exit rfl ?_
    refine at_seq ?_
    refine at_region ?_
    refine wl_read rfl rfl rfl (yl_assign rfl rfl) ?_
    refine wl_nil ?_
    refine at_keep (Keep.cons 4 rfl (Keep.cons 5 rfl (Keep.cons 6 rfl (Keep.cons 8 rfl (Keep.cons 33 rfl Keep.nil))))) ?_
    refine at_retH (fun _ hw => hw.tail.tail) Try.func7 (res1 rfl rfl) ?_
    exact ⟨rfl, rfl⟩
theorem law8 (l : List Raw) (A : Option Addr) (c : Nat) (month : Int) (b : World) (H : List Asr) (hR : Rd H A l) (hl : l.length ≤ 140737488355328) (ha : ∀ i, i < l.length → I64 (at_ l i).amount) : Fn Try.prog 8 [.slice A l.length c, .int .i64 month] b H (fun v H' => v = .bool true ∧ H = H') := by
  obtain ⟨s, hs⟩ : ∃ s, s = stages l month := ⟨_, rfl⟩
  have hv : Valid s := hs ▸ stages_valid l month
  have hl120 := hv.1
  refine fn_of_at (by kernel_rfl) Try.func8 rfl Try.ntmps8 rfl rfl ?_
  refine at_seq ?_
  refine at_region ?_
  refine wl_read rfl rfl rfl (yl_assign rfl rfl) ?_
  refine wl_nil ?_
  refine at_keep (Keep.cons 0 rfl (Keep.cons 1 rfl (Keep.cons 4 rfl Keep.nil))) ?_
  refine at_seq ?_
  refine at_region ?_
  refine wl_read rfl rfl rfl (yl_move rfl rfl) ?_
  refine wl_read rfl rfl rfl (yl_move rfl rfl) ?_
  refine wl_call rfl rfl rfl (en_call rfl rfl) (stages_fnS hs hR hl ha) ?_
  rintro _ _ ⟨A1, c1, rfl, rfl⟩
  refine wl_read rfl rfl rfl (yl_assign rfl rfl) ?_
  refine wl_nil ?_
  refine at_keep (Keep.cons 0 rfl (Keep.cons 1 rfl (Keep.cons 4 rfl (Keep.cons 5 rfl Keep.nil)))) ?_
  refine at_seq ?_
  refine at_seq ?_
  refine at_region ?_
  refine wl_read rfl rfl rfl (yl_assign rfl rfl) ?_
  refine wl_nil ?_
  refine at_keep (Keep.cons 0 rfl (Keep.cons 1 rfl (Keep.cons 4 rfl (Keep.cons 5 rfl (Keep.cons 6 rfl Keep.nil))))) ?_
  refine at_block ?_
  refine at_keep (L' := (fun (k : Nat) => [(5, .slice A1 (clr s k).length c1), (6, .int .i64 (k : Int))]) 0) (Keep.consEq 5 rfl (by rw [clr_zero]) (Keep.consEq 6 rfl rfl Keep.nil)) ?_
  refine at_heap (H' := Sl A1 c1 37 (clr s 0) :: H) (fun _ hw => by rw [clr_zero]; exact hw) ?_
  refine at_loop1 (fun (k : Nat) => k ≤ s.length) (fun (k : Nat) => [(5, .slice A1 (clr s k).length c1), (6, .int .i64 (k : Int))]) (fun (k : Nat) => Sl A1 c1 37 (clr s k) :: H) (fun (k : Nat) => s.length - k) 0 (by omega) ?_
  intro k hI ih
  have hcl := clr_length s k
  refine at_seq ?_
  refine at_seq ?_
  refine at_region ?_
  refine wl_read rfl rfl rfl (yl_move rfl rfl) ?_
  refine wl_read rfl rfl rfl (yl_move rfl rfl) ?_
  refine wl_read rfl rfl rfl (yl_len rfl rfl Try.underlying23) ?_
  refine wl_split rfl rfl rfl (yp_lss rfl rfl rfl) ?_ ?_
  · intro h3_3
    refine wl_nil ?_
    refine at_keep (Keep.cons 5 rfl (Keep.cons 6 rfl (Keep.cons 17 rfl Keep.nil))) ?_
    refine at_true rfl ?_
    refine at_skip ?_
    refine at_seq ?_
    refine at_block ?_
    have hk1 : k < s.length := by omega
    have hat : (clr s k)[k]? = some (at_ s k) := by rw [at_some (show k < (clr s k).length by omega), clr_at s k hk1, if_neg (by omega)]
    refine at_region ?_
    refine wl_read rfl rfl rfl (yl_move rfl rfl) ?_
    refine wl_read rfl rfl rfl (yl_move rfl rfl) ?_
    refine wl_read rfl rfl rfl (yl_index rfl rfl rfl (Rd.of_sl 0 rfl) hat rfl rfl Try.underlying23 (by kernel_rfl) rfl) ?_
    refine wl_read rfl rfl rfl (yl_field rfl rfl Try.underlying37 rfl (by kernel_rfl) rfl) ?_
    refine wl_store rfl rfl (es_at0 (es_storeSl (α := Stage) 0 (noLaw (at_ s k)) rfl rfl rfl rfl (by kernel_rfl) rfl hat rfl rfl)) ?_
    rw [clr_succ s hk1]
    refine wl_nil ?_
    refine at_keep (Keep.cons 5 rfl (Keep.cons 6 rfl (Keep.cons 17 rfl Keep.nil))) ?_
    refine at_inBlock ?_
    refine at_region ?_
    refine wl_read rfl rfl rfl (yl_move rfl rfl) ?_
    refine wl_read rfl rfl rfl (yl_add rfl rfl rfl (w64 (by omega) (by omega))) ?_
    refine wl_read rfl rfl rfl (yl_assign rfl rfl) ?_
    refine wl_nil ?_
    refine at_keep (Keep.cons 5 rfl (Keep.cons 6 rfl (Keep.cons 17 rfl Keep.nil))) ?_
    exact at_keep (L' := (fun (k : Nat) => [(5, .slice A1 (clr s k).length c1), (6, .int .i64 (k : Int))]) (k + 1)) (Keep.consEq 5 rfl (by rw [clr_length, clr_length]) (Keep.consEq 6 rfl rfl Keep.nil)) (ih (k + 1) (by omega) (by omega))
  · intro h3_3
    refine wl_nil ?_
    refine at_keep (Keep.cons 5 rfl (Keep.cons 6 rfl (Keep.cons 17 rfl Keep.nil))) ?_
    refine at_false rfl ?_
    refine at_exit rfl ?_
    refine at_seq ?_
    have hvc := clr_valid s k hv
    have hnl : ∀ i, i < (clr s k).length → (at_ (clr s k) i).law = false := fun i hi => by rw [clr_at s k (by omega), if_pos (by omega)]; rfl
    clear ih
    generalize clr s k = t at *
    have ht120 := hvc.1
    refine at_region ?_
    refine wl_read rfl rfl rfl (yl_move rfl rfl) ?_
    refine wl_call rfl rfl rfl (en_call rfl rfl) (run_ok hvc (Rd.of_sl 0 rfl)) ?_
    rintro _ _ ⟨A2, c2, rfl, rfl⟩
    refine wl_read rfl rfl rfl (yl_move rfl rfl) ?_
    refine wl_read rfl rfl rfl (yl_extract rfl rfl rfl) ?_
    refine wl_read rfl rfl rfl (yl_extract rfl rfl rfl) ?_
    refine wl_read rfl rfl rfl (yl_assign rfl rfl) ?_
    refine wl_read rfl rfl rfl (yl_assign rfl rfl) ?_
    refine wl_nil ?_
    refine at_keep (Keep.cons 5 rfl (Keep.cons 6 rfl (Keep.cons 7 rfl (Keep.cons 8 rfl (Keep.cons 17 rfl Keep.nil))))) ?_
    refine at_seq ?_
    refine at_seq ?_
    refine at_region ?_
    refine wl_call rfl rfl rfl (en_call rfl rfl) (awake_fn _ _) ?_
    rintro _ _ ⟨rfl, rfl⟩
    refine wl_read rfl rfl rfl (yl_notT rfl rfl) ?_
    refine wl_read rfl rfl rfl (yl_move rfl rfl) ?_
    refine wl_read rfl rfl rfl (yl_move rfl rfl) ?_
    refine wl_read rfl rfl rfl ((yp_neq rfl rfl rfl).2 (by simp)) ?_
    refine wl_read rfl rfl rfl (yl_pickF rfl rfl rfl) ?_
    refine wl_read rfl rfl rfl (yl_move rfl rfl) ?_
    refine wl_read rfl rfl rfl (yl_move rfl rfl) ?_
    refine wl_read rfl rfl rfl (yl_len rfl rfl Try.underlying25) ?_
    refine wl_read rfl rfl rfl (yl_move rfl rfl) ?_
    refine wl_read rfl rfl rfl (yl_len rfl rfl Try.underlying23) ?_
    refine wl_read rfl rfl rfl ((yp_neq rfl rfl rfl).2 (by rw [run_length]; simp)) ?_
    refine wl_read rfl rfl rfl (yl_pickF rfl rfl rfl) ?_
    refine wl_nil ?_
    refine at_keep (Keep.cons 5 rfl (Keep.cons 6 rfl (Keep.cons 7 rfl (Keep.cons 8 rfl (Keep.cons 17 rfl (Keep.cons 41 rfl Keep.nil)))))) ?_
    refine at_false rfl ?_
    refine at_skip ?_
    refine at_seq ?_
    refine at_seq ?_
    refine at_region ?_
    refine wl_read rfl rfl rfl (yl_assign rfl rfl) ?_
    refine wl_nil ?_
    refine at_keep (Keep.cons 5 rfl (Keep.cons 6 rfl (Keep.cons 7 rfl (Keep.cons 8 rfl (Keep.cons 9 rfl (Keep.cons 17 rfl (Keep.cons 41 rfl Keep.nil))))))) ?_
    refine at_block ?_
    refine at_keep (L' := (fun (i : Nat) => [(5, .slice A1 t.length c1), (7, .slice A2 (run t).length c2), (9, .int .i64 (i : Int))]) 0) (Keep.consEq 5 rfl rfl (Keep.consEq 7 rfl rfl (Keep.consEq 9 rfl rfl Keep.nil))) ?_
    refine at_loop1 (fun (i : Nat) => True) (fun (i : Nat) => [(5, .slice A1 t.length c1), (7, .slice A2 (run t).length c2), (9, .int .i64 (i : Int))]) (fun (i : Nat) => Sl A2 c2 32 (run t) :: Sl A1 c1 37 t :: H) (fun (i : Nat) => t.length - i) 0 trivial ?_
    intro i hI ih
    refine at_seq ?_
    refine at_seq ?_
    refine at_region ?_
    refine wl_read rfl rfl rfl (yl_move rfl rfl) ?_
    refine wl_read rfl rfl rfl (yl_move rfl rfl) ?_
    refine wl_read rfl rfl rfl (yl_len rfl rfl Try.underlying23) ?_
    refine wl_split rfl rfl rfl (yp_lss rfl rfl rfl) ?_ ?_
    · intro h10_3
      refine wl_nil ?_
      refine at_keep (Keep.cons 5 rfl (Keep.cons 7 rfl (Keep.cons 9 rfl (Keep.cons 45 rfl Keep.nil)))) ?_
      refine at_true rfl ?_
      refine at_skip ?_
      refine at_seq ?_
      refine at_block ?_
      refine at_seq ?_
      have hi1 : i < t.length := by omega
      have hir : i < (run t).length := by rw [run_length]; exact hi1
      have hn := run_nolaw t hvc hnl hi1
      refine at_region ?_
      refine wl_read rfl rfl rfl (yl_move rfl rfl) ?_
      refine wl_read rfl rfl rfl (yl_move rfl rfl) ?_
      refine wl_read rfl rfl rfl (yl_index rfl rfl rfl (Rd.of_sl 1 rfl) (at_some hi1) rfl rfl Try.underlying23 (by kernel_rfl) rfl) ?_
      refine wl_read rfl rfl rfl (yl_field rfl rfl Try.underlying37 rfl (by kernel_rfl) rfl) ?_
      refine wl_read rfl rfl rfl (yl_load rfl rfl Try.underlying3 rfl ((Rd.of_sl 1 rfl).cell2 (at_some hi1) rfl)) ?_
      refine wl_read rfl rfl rfl (yl_assign rfl rfl) ?_
      refine wl_nil ?_
      refine at_keep (Keep.cons 5 rfl (Keep.cons 7 rfl (Keep.cons 9 rfl (Keep.cons 10 rfl (Keep.cons 45 rfl Keep.nil))))) ?_
      refine at_seq ?_
      refine at_seq ?_
      refine at_region ?_
      refine wl_read rfl rfl rfl (yl_move rfl rfl) ?_
      refine wl_read rfl rfl rfl (yl_move rfl rfl) ?_
      refine wl_read rfl rfl rfl (yl_index rfl rfl rfl (Rd.of_sl 1 rfl) (at_some hi1) rfl rfl Try.underlying23 (by kernel_rfl) rfl) ?_
      refine wl_read rfl rfl rfl (yl_field rfl rfl Try.underlying37 rfl (by kernel_rfl) rfl) ?_
      refine wl_splitB rfl rfl rfl (yl_load rfl rfl Try.underlying4 rfl ((Rd.of_sl 1 rfl).cell2 (at_some hi1) rfl)) ?_ ?_
      · intro h13_4
        refine wl_nil ?_
        refine at_keep (Keep.cons 5 rfl (Keep.cons 7 rfl (Keep.cons 9 rfl (Keep.cons 10 rfl (Keep.cons 45 rfl (Keep.cons 57 rfl Keep.nil)))))) ?_
        refine at_true rfl ?_
        refine at_region ?_
        refine wl_read rfl rfl rfl (yl_assign rfl rfl) ?_
        refine wl_nil ?_
        refine at_keep (Keep.cons 5 rfl (Keep.cons 7 rfl (Keep.cons 9 rfl (Keep.cons 10 rfl (Keep.cons 45 rfl (Keep.cons 57 rfl Keep.nil)))))) ?_
        refine at_seq ?_
        refine at_region ?_
        refine wl_read rfl rfl rfl (yl_move rfl rfl) ?_
        refine wl_read rfl rfl rfl (yl_move rfl rfl) ?_
        refine wl_read rfl rfl rfl (yl_index rfl rfl rfl (Rd.of_sl 0 rfl) (at_some hir) rfl rfl Try.underlying25 (by kernel_rfl) rfl) ?_
        refine wl_read rfl rfl rfl (yl_field rfl rfl Try.underlying32 rfl (by kernel_rfl) rfl) ?_
        refine wl_read rfl rfl rfl (yl_load rfl rfl Try.underlying3 rfl ((Rd.of_sl 0 rfl).cell2 (at_some hir) rfl)) ?_
        refine wl_read rfl rfl rfl (yl_move rfl rfl) ?_
        refine wl_read rfl rfl rfl ((yp_neq rfl rfl rfl).2 (by rw [hn.1, if_pos h13_4]; simp)) ?_
        refine wl_read rfl rfl rfl (yl_move rfl rfl) ?_
        refine wl_read rfl rfl rfl (yl_move rfl rfl) ?_
        refine wl_read rfl rfl rfl (yl_move rfl rfl) ?_
        refine wl_read rfl rfl rfl (yl_index rfl rfl rfl (Rd.of_sl 0 rfl) (at_some hir) rfl rfl Try.underlying25 (by kernel_rfl) rfl) ?_
        refine wl_read rfl rfl rfl (yl_field rfl rfl Try.underlying32 rfl (by kernel_rfl) rfl) ?_
        refine wl_read rfl rfl rfl (yl_boolF (yl_load rfl rfl Try.underlying4 rfl ((Rd.of_sl 0 rfl).cell2 (at_some hir) rfl)) hn.2) ?_
        refine wl_read rfl rfl rfl (yl_pickF rfl rfl rfl) ?_
        refine wl_nil ?_
        refine at_keep (Keep.cons 5 rfl (Keep.cons 7 rfl (Keep.cons 9 rfl (Keep.cons 10 rfl (Keep.cons 45 rfl (Keep.cons 57 rfl (Keep.cons 71 rfl Keep.nil))))))) ?_
        refine at_false rfl ?_
        refine at_skip ?_
        refine at_inBlock ?_
        refine at_region ?_
        refine wl_read rfl rfl rfl (yl_move rfl rfl) ?_
        refine wl_read rfl rfl rfl (yl_add rfl rfl rfl (w64 (by omega) (by omega))) ?_
        refine wl_read rfl rfl rfl (yl_assign rfl rfl) ?_
        refine wl_nil ?_
        refine at_keep (Keep.cons 5 rfl (Keep.cons 7 rfl (Keep.cons 9 rfl (Keep.cons 10 rfl (Keep.cons 45 rfl (Keep.cons 57 rfl (Keep.cons 71 rfl Keep.nil))))))) ?_
        exact at_keep (L' := (fun (i : Nat) => [(5, .slice A1 t.length c1), (7, .slice A2 (run t).length c2), (9, .int .i64 (i : Int))]) (i + 1)) (Keep.consEq 5 rfl rfl (Keep.consEq 7 rfl rfl (Keep.consEq 9 rfl rfl Keep.nil))) (ih (i + 1) trivial (by omega))
      · intro h13_4
        refine wl_nil ?_
        refine at_keep (Keep.cons 5 rfl (Keep.cons 7 rfl (Keep.cons 9 rfl (Keep.cons 10 rfl (Keep.cons 45 rfl (Keep.cons 57 rfl Keep.nil)))))) ?_
        refine at_false rfl ?_
        refine at_skip ?_
        refine at_seq ?_
        refine at_region ?_
        refine wl_read rfl rfl rfl (yl_move rfl rfl) ?_
        refine wl_read rfl rfl rfl (yl_move rfl rfl) ?_
        refine wl_read rfl rfl rfl (yl_index rfl rfl rfl (Rd.of_sl 0 rfl) (at_some hir) rfl rfl Try.underlying25 (by kernel_rfl) rfl) ?_
        refine wl_read rfl rfl rfl (yl_field rfl rfl Try.underlying32 rfl (by kernel_rfl) rfl) ?_
        refine wl_read rfl rfl rfl (yl_load rfl rfl Try.underlying3 rfl ((Rd.of_sl 0 rfl).cell2 (at_some hir) rfl)) ?_
        refine wl_read rfl rfl rfl (yl_move rfl rfl) ?_
        refine wl_read rfl rfl rfl ((yp_neq rfl rfl rfl).2 (by rw [hn.1, if_neg (by rw [h13_4]; simp)]; simp)) ?_
        refine wl_read rfl rfl rfl (yl_move rfl rfl) ?_
        refine wl_read rfl rfl rfl (yl_move rfl rfl) ?_
        refine wl_read rfl rfl rfl (yl_move rfl rfl) ?_
        refine wl_read rfl rfl rfl (yl_index rfl rfl rfl (Rd.of_sl 0 rfl) (at_some hir) rfl rfl Try.underlying25 (by kernel_rfl) rfl) ?_
        refine wl_read rfl rfl rfl (yl_field rfl rfl Try.underlying32 rfl (by kernel_rfl) rfl) ?_
        refine wl_read rfl rfl rfl (yl_boolF (yl_load rfl rfl Try.underlying4 rfl ((Rd.of_sl 0 rfl).cell2 (at_some hir) rfl)) hn.2) ?_
        refine wl_read rfl rfl rfl (yl_pickF rfl rfl rfl) ?_
        refine wl_nil ?_
        refine at_keep (Keep.cons 5 rfl (Keep.cons 7 rfl (Keep.cons 9 rfl (Keep.cons 10 rfl (Keep.cons 45 rfl (Keep.cons 57 rfl (Keep.cons 71 rfl Keep.nil))))))) ?_
        refine at_false rfl ?_
        refine at_skip ?_
        refine at_inBlock ?_
        refine at_region ?_
        refine wl_read rfl rfl rfl (yl_move rfl rfl) ?_
        refine wl_read rfl rfl rfl (yl_add rfl rfl rfl (w64 (by omega) (by omega))) ?_
        refine wl_read rfl rfl rfl (yl_assign rfl rfl) ?_
        refine wl_nil ?_
        refine at_keep (Keep.cons 5 rfl (Keep.cons 7 rfl (Keep.cons 9 rfl (Keep.cons 10 rfl (Keep.cons 45 rfl (Keep.cons 57 rfl (Keep.cons 71 rfl Keep.nil))))))) ?_
        exact at_keep (L' := (fun (i : Nat) => [(5, .slice A1 t.length c1), (7, .slice A2 (run t).length c2), (9, .int .i64 (i : Int))]) (i + 1)) (Keep.consEq 5 rfl rfl (Keep.consEq 7 rfl rfl (Keep.consEq 9 rfl rfl Keep.nil))) (ih (i + 1) trivial (by omega))
    · intro h10_3
      refine wl_nil ?_
      refine at_keep (Keep.cons 5 rfl (Keep.cons 7 rfl (Keep.cons 9 rfl (Keep.cons 45 rfl Keep.nil)))) ?_
      refine at_false rfl ?_
      refine at_exit rfl ?_
      refine at_seq ?_
      refine at_region ?_
      refine wl_read rfl rfl rfl (yl_assign rfl rfl) ?_
      refine wl_nil ?_
      refine at_keep (Keep.cons 4 rfl (Keep.cons 5 rfl (Keep.cons 7 rfl (Keep.cons 9 rfl (Keep.cons 45 rfl Keep.nil))))) ?_
      refine at_retH (fun _ hw => hw.tail.tail) Try.func8 (res1 rfl rfl) ?_
      exact ⟨rfl, rfl⟩
end Go.Proofs.Yteckaphnapljnaa

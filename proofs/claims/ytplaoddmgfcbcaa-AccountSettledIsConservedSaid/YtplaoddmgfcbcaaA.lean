/- Walks of the plain helpers: Mod, Amount, ValidMonth, sign, valid, and the reference of valid. -/
import Derived.Test.YtplaoddmgfcbcaaN
namespace Go.Proofs.Ytplaoddmgfcbcaa
open Go

theorem mod_fn (n m : Int) (b : World) (H : List Asr) (hm : 0 < m) (hm2 : m ≤ 4611686018427387904) : Fn Try.prog 17 [.int .i64 n, .int .i64 m] b H (fun v H' => v = .int .i64 (md n m) ∧ H = H') := by
  have hb1 := Int.tmod_lt_of_pos n hm
  have hb2 : -m < n.tmod m := by
    have := Int.tmod_lt_of_pos (-n) hm
    rw [Int.neg_tmod] at this
    omega
  refine fn_of_at (by kernel_rfl) Try.func17 rfl Try.ntmps17 rfl rfl ?_
  refine at_seq ?_
  refine at_region ?_
  refine wl_read rfl rfl rfl (yl_assign rfl rfl) ?_
  refine wl_nil ?_
  refine at_keep (Keep.cons 0 rfl (Keep.cons 1 rfl (Keep.cons 4 rfl Keep.nil))) ?_
  refine at_seq ?_
  refine at_region ?_
  refine wl_read rfl rfl rfl (yl_move rfl rfl) ?_
  refine wl_read rfl rfl rfl (yl_move rfl rfl) ?_
  refine wl_read rfl rfl rfl (yl_rem rfl rfl rfl (by omega) rfl) ?_
  refine wl_read rfl rfl rfl (yl_assign rfl rfl) ?_
  refine wl_nil ?_
  refine at_keep (Keep.cons 0 rfl (Keep.cons 1 rfl (Keep.cons 4 rfl (Keep.cons 5 rfl Keep.nil)))) ?_
  refine at_seq ?_
  refine at_seq ?_
  refine at_region ?_
  refine wl_read rfl rfl rfl (yl_move rfl rfl) ?_
  refine wl_split rfl rfl rfl (yp_lss rfl rfl rfl) ?_ ?_
  · intro h2_1
    refine wl_nil ?_
    refine at_keep (Keep.cons 0 rfl (Keep.cons 1 rfl (Keep.cons 4 rfl (Keep.cons 5 rfl (Keep.cons 10 rfl Keep.nil))))) ?_
    refine at_true rfl ?_
    refine at_region ?_
    refine wl_read rfl rfl rfl (yl_move rfl rfl) ?_
    refine wl_read rfl rfl rfl (yl_move rfl rfl) ?_
    refine wl_read rfl rfl rfl (yl_add rfl rfl rfl (w64 (by omega) (by omega))) ?_
    refine wl_read rfl rfl rfl (yl_assign rfl rfl) ?_
    refine wl_nil ?_
    refine at_keep (Keep.cons 0 rfl (Keep.cons 1 rfl (Keep.cons 4 rfl (Keep.cons 5 rfl (Keep.cons 10 rfl Keep.nil))))) ?_
    refine at_seq ?_
    refine at_region ?_
    refine wl_read rfl rfl rfl (yl_move rfl rfl) ?_
    refine wl_read rfl rfl rfl (yl_assign rfl rfl) ?_
    refine wl_nil ?_
    refine at_keep (Keep.cons 0 rfl (Keep.cons 1 rfl (Keep.cons 4 rfl (Keep.cons 5 rfl (Keep.cons 10 rfl Keep.nil))))) ?_
    refine at_ret Try.func17 (res1 rfl rfl) ?_
    exact ⟨by unfold md; rw [if_pos h2_1], rfl⟩
  · intro h2_1
    refine wl_nil ?_
    refine at_keep (Keep.cons 0 rfl (Keep.cons 1 rfl (Keep.cons 4 rfl (Keep.cons 5 rfl (Keep.cons 10 rfl Keep.nil))))) ?_
    refine at_false rfl ?_
    refine at_skip ?_
    refine at_seq ?_
    refine at_region ?_
    refine wl_read rfl rfl rfl (yl_move rfl rfl) ?_
    refine wl_read rfl rfl rfl (yl_assign rfl rfl) ?_
    refine wl_nil ?_
    refine at_keep (Keep.cons 0 rfl (Keep.cons 1 rfl (Keep.cons 4 rfl (Keep.cons 5 rfl (Keep.cons 10 rfl Keep.nil))))) ?_
    refine at_ret Try.func17 (res1 rfl rfl) ?_
    exact ⟨by unfold md; rw [if_neg h2_1], rfl⟩
theorem amount_fn (n : Int) (b : World) (H : List Asr) (hn : I64 n) : Fn Try.prog 24 [.int .i64 n] b H (fun v H' => v = .int .i64 (am n) ∧ H = H') := by
  have hq := tdiv8 n hn
  have hb1 := md_bd (n.tdiv 8) 1000 (by decide)
  refine fn_of_at (by kernel_rfl) Try.func24 rfl Try.ntmps24 rfl rfl ?_
  refine at_seq ?_
  refine at_region ?_
  refine wl_read rfl rfl rfl (yl_assign rfl rfl) ?_
  refine wl_nil ?_
  refine at_keep (Keep.cons 0 rfl (Keep.cons 2 rfl Keep.nil)) ?_
  refine at_seq ?_
  refine at_seq ?_
  refine at_region ?_
  refine wl_read rfl rfl rfl (yl_move rfl rfl) ?_
  refine wl_call rfl rfl rfl (en_call rfl rfl) (mod_fn _ _ _ _ (by decide) (by decide)) ?_
  rintro _ _ ⟨rfl, rfl⟩
  refine wl_nil ?_
  refine at_keep (Keep.cons 0 rfl (Keep.cons 2 rfl (Keep.cons 4 rfl Keep.nil))) ?_
  refine at_block ?_
  refine at_seq ?_
  refine at_region ?_
  refine wl_split rfl rfl rfl (yp_eql rfl rfl rfl) ?_ ?_
  · intro h2_0
    refine wl_read rfl rfl rfl (yl_assign rfl rfl) ?_
    refine wl_nil ?_
    refine at_keep (Keep.cons 0 rfl (Keep.cons 2 rfl (Keep.cons 4 rfl (Keep.cons 5 rfl Keep.nil)))) ?_
    refine at_true rfl ?_
    refine at_seq ?_
    refine at_region ?_
    refine wl_read rfl rfl rfl (yl_assign rfl rfl) ?_
    refine wl_nil ?_
    refine at_keep (Keep.cons 0 rfl (Keep.cons 2 rfl (Keep.cons 4 rfl (Keep.cons 5 rfl Keep.nil)))) ?_
    refine at_ret Try.func24 (res1 rfl rfl) ?_
    exact ⟨by unfold am; rw [if_pos h2_0], rfl⟩
  · intro h2_0
    refine wl_read rfl rfl rfl (yl_assign rfl rfl) ?_
    refine wl_nil ?_
    refine at_keep (Keep.cons 0 rfl (Keep.cons 2 rfl (Keep.cons 4 rfl (Keep.cons 5 rfl Keep.nil)))) ?_
    refine at_false rfl ?_
    refine at_seq ?_
    refine at_region ?_
    refine wl_split rfl rfl rfl (yp_eql rfl rfl rfl) ?_ ?_
    · intro h4_0
      refine wl_read rfl rfl rfl (yl_assign rfl rfl) ?_
      refine wl_nil ?_
      refine at_keep (Keep.cons 0 rfl (Keep.cons 2 rfl (Keep.cons 4 rfl (Keep.cons 5 rfl (Keep.cons 7 rfl Keep.nil))))) ?_
      refine at_true rfl ?_
      refine at_seq ?_
      refine at_region ?_
      refine wl_read rfl rfl rfl (yl_move rfl rfl) ?_
      refine wl_read rfl rfl rfl (yl_quo rfl rfl rfl (by decide) (w64 hq.1 hq.2)) ?_
      refine wl_call rfl rfl rfl (en_call rfl rfl) (mod_fn _ _ _ _ (by decide) (by decide)) ?_
      rintro _ _ ⟨rfl, rfl⟩
      refine wl_read rfl rfl rfl (yl_sub rfl rfl rfl (w64 (by omega) (by omega))) ?_
      refine wl_read rfl rfl rfl (yl_assign rfl rfl) ?_
      refine wl_nil ?_
      refine at_keep (Keep.cons 0 rfl (Keep.cons 2 rfl (Keep.cons 4 rfl (Keep.cons 5 rfl (Keep.cons 7 rfl Keep.nil))))) ?_
      refine at_ret Try.func24 (res1 rfl rfl) ?_
      exact ⟨by unfold am; rw [if_neg h2_0, if_pos h4_0], rfl⟩
    · intro h4_0
      refine wl_read rfl rfl rfl (yl_assign rfl rfl) ?_
      refine wl_nil ?_
      refine at_keep (Keep.cons 0 rfl (Keep.cons 2 rfl (Keep.cons 4 rfl (Keep.cons 5 rfl (Keep.cons 7 rfl Keep.nil))))) ?_
      refine at_false rfl ?_
      refine at_seq ?_
      refine at_region ?_
      refine wl_split rfl rfl rfl (yp_eql rfl rfl rfl) ?_ ?_
      · intro h6_0
        refine wl_read rfl rfl rfl (yl_assign rfl rfl) ?_
        refine wl_nil ?_
        refine at_keep (Keep.cons 0 rfl (Keep.cons 2 rfl (Keep.cons 4 rfl (Keep.cons 5 rfl (Keep.cons 7 rfl (Keep.cons 13 rfl Keep.nil)))))) ?_
        refine at_true rfl ?_
        refine at_seq ?_
        refine at_region ?_
        refine wl_read rfl rfl rfl (yl_move rfl rfl) ?_
        refine wl_read rfl rfl rfl (yl_quo rfl rfl rfl (by decide) (w64 hq.1 hq.2)) ?_
        refine wl_call rfl rfl rfl (en_call rfl rfl) (mod_fn _ _ _ _ (by decide) (by decide)) ?_
        rintro _ _ ⟨rfl, rfl⟩
        refine wl_read rfl rfl rfl (yl_assign rfl rfl) ?_
        refine wl_nil ?_
        refine at_keep (Keep.cons 0 rfl (Keep.cons 2 rfl (Keep.cons 4 rfl (Keep.cons 5 rfl (Keep.cons 7 rfl (Keep.cons 13 rfl Keep.nil)))))) ?_
        refine at_ret Try.func24 (res1 rfl rfl) ?_
        exact ⟨by unfold am; rw [if_neg h2_0, if_neg h4_0, if_pos h6_0], rfl⟩
      · intro h6_0
        refine wl_read rfl rfl rfl (yl_assign rfl rfl) ?_
        refine wl_nil ?_
        refine at_keep (Keep.cons 0 rfl (Keep.cons 2 rfl (Keep.cons 4 rfl (Keep.cons 5 rfl (Keep.cons 7 rfl (Keep.cons 13 rfl Keep.nil)))))) ?_
        refine at_false rfl ?_
        refine at_skip ?_
        refine at_inBlock ?_
        refine at_seq ?_
        refine at_region ?_
        refine wl_read rfl rfl rfl (yl_move rfl rfl) ?_
        refine wl_read rfl rfl rfl (yl_quo rfl rfl rfl (by decide) (w64 hq.1 hq.2)) ?_
        refine wl_call rfl rfl rfl (en_call rfl rfl) (mod_fn _ _ _ _ (by decide) (by decide)) ?_
        rintro _ _ ⟨rfl, rfl⟩
        refine wl_read rfl rfl rfl (yl_assign rfl rfl) ?_
        refine wl_nil ?_
        refine at_keep (Keep.cons 0 rfl (Keep.cons 2 rfl (Keep.cons 4 rfl (Keep.cons 5 rfl (Keep.cons 7 rfl (Keep.cons 13 rfl Keep.nil)))))) ?_
        refine at_ret Try.func24 (res1 rfl rfl) ?_
        exact ⟨by unfold am; rw [if_neg h2_0, if_neg h4_0, if_neg h6_0], rfl⟩
theorem month_fn (n : Int) (b : World) (H : List Asr) : Fn Try.prog 36 [.int .i64 n] b H (fun v H' => v = .bool (decide (0 ≤ n ∧ n ≤ 2399)) ∧ H = H') := by
  refine fn_of_at (by kernel_rfl) Try.func36 rfl Try.ntmps36 rfl rfl ?_
  refine at_seq ?_
  refine at_region ?_
  refine wl_read rfl rfl rfl (yl_assign rfl rfl) ?_
  refine wl_nil ?_
  refine at_keep (Keep.cons 0 rfl (Keep.cons 2 rfl Keep.nil)) ?_
  refine at_seq ?_
  refine at_region ?_
  refine wl_read rfl rfl rfl (yl_move rfl rfl) ?_
  refine wl_split rfl rfl rfl (yp_geq rfl rfl rfl) ?_ ?_
  · intro h1_1
    refine wl_read rfl rfl rfl (yl_move rfl rfl) ?_
    refine wl_read rfl rfl rfl (yl_move rfl rfl) ?_
    refine wl_split rfl rfl rfl (yp_leq rfl rfl rfl) ?_ ?_
    · intro h1_4
      refine wl_read rfl rfl rfl (yl_pickT rfl rfl rfl) ?_
      refine wl_read rfl rfl rfl (yl_assign rfl rfl) ?_
      refine wl_nil ?_
      refine at_keep (Keep.cons 0 rfl (Keep.cons 2 rfl Keep.nil)) ?_
      refine at_ret Try.func36 (res1 rfl rfl) ?_
      exact ⟨congrArg Value.bool (decide_eq_true (by omega)).symm, rfl⟩
    · intro h1_4
      refine wl_read rfl rfl rfl (yl_pickT rfl rfl rfl) ?_
      refine wl_read rfl rfl rfl (yl_assign rfl rfl) ?_
      refine wl_nil ?_
      refine at_keep (Keep.cons 0 rfl (Keep.cons 2 rfl Keep.nil)) ?_
      refine at_ret Try.func36 (res1 rfl rfl) ?_
      exact ⟨congrArg Value.bool (decide_eq_false (by omega)).symm, rfl⟩
  · intro h1_1
    refine wl_read rfl rfl rfl (yl_move rfl rfl) ?_
    refine wl_skip rfl rfl rfl ?_
    refine wl_skip rfl rfl rfl ?_
    refine wl_read rfl rfl rfl (yl_pickF rfl rfl rfl) ?_
    refine wl_read rfl rfl rfl (yl_assign rfl rfl) ?_
    refine wl_nil ?_
    refine at_keep (Keep.cons 0 rfl (Keep.cons 2 rfl Keep.nil)) ?_
    refine at_ret Try.func36 (res1 rfl rfl) ?_
    exact ⟨congrArg Value.bool (decide_eq_false (by omega)).symm, rfl⟩
theorem sign_fn (n : Int) (b : World) (H : List Asr) : Fn Try.prog 30 [.int .i64 n] b H (fun v H' => v = .int .i64 (if n = 3 then -1 else 1) ∧ H = H') := by
  refine fn_of_at (by kernel_rfl) Try.func30 rfl Try.ntmps30 rfl rfl ?_
  refine at_seq ?_
  refine at_region ?_
  refine wl_read rfl rfl rfl (yl_assign rfl rfl) ?_
  refine wl_nil ?_
  refine at_keep (Keep.cons 0 rfl (Keep.cons 2 rfl Keep.nil)) ?_
  refine at_seq ?_
  refine at_seq ?_
  refine at_region ?_
  refine wl_read rfl rfl rfl (yl_move rfl rfl) ?_
  refine wl_split rfl rfl rfl (yp_eql rfl rfl rfl) ?_ ?_
  · intro h1_1
    refine wl_nil ?_
    refine at_keep (Keep.cons 0 rfl (Keep.cons 2 rfl (Keep.cons 4 rfl Keep.nil))) ?_
    refine at_true rfl ?_
    refine at_seq ?_
    refine at_region ?_
    refine wl_read rfl rfl rfl (yl_assign rfl rfl) ?_
    refine wl_nil ?_
    refine at_keep (Keep.cons 0 rfl (Keep.cons 2 rfl (Keep.cons 4 rfl Keep.nil))) ?_
    refine at_ret Try.func30 (res1 rfl rfl) ?_
    exact ⟨by rw [if_pos h1_1], rfl⟩
  · intro h1_1
    refine wl_nil ?_
    refine at_keep (Keep.cons 0 rfl (Keep.cons 2 rfl (Keep.cons 4 rfl Keep.nil))) ?_
    refine at_false rfl ?_
    refine at_skip ?_
    refine at_seq ?_
    refine at_region ?_
    refine wl_read rfl rfl rfl (yl_assign rfl rfl) ?_
    refine wl_nil ?_
    refine at_keep (Keep.cons 0 rfl (Keep.cons 2 rfl (Keep.cons 4 rfl Keep.nil))) ?_
    refine at_ret Try.func30 (res1 rfl rfl) ?_
    exact ⟨by rw [if_neg h1_1], rfl⟩
theorem valid_fn (e : Entry) (b : World) (H : List Asr) : Fn Try.prog 29 [.agg (Enc.cells e).toArray] b H (fun v H' => v = .bool (decide (okE e)) ∧ H = H') := by
  refine fn_of_at (by kernel_rfl) Try.func29 rfl Try.ntmps29 rfl rfl ?_
  refine at_seq ?_
  refine at_region ?_
  refine wl_eff rfl rfl rfl (ef_box rfl rfl rfl) ?_
  rintro _ _ ⟨g0, rfl, rfl⟩
  refine wl_read rfl rfl rfl (yl_assign rfl rfl) ?_
  refine wl_nil ?_
  refine at_keep (Keep.cons 0 rfl (Keep.cons 1 rfl (Keep.cons 2 rfl Keep.nil))) ?_
  refine at_seq ?_
  refine at_seq ?_
  refine at_region ?_
  refine wl_read rfl rfl rfl (yl_fieldB rfl rfl Try.underlying33 rfl (by kernel_rfl) rfl) ?_
  refine wl_read rfl rfl rfl (yl_load rfl rfl Try.underlying3 rfl (CellAt.bk 0 rfl rfl)) ?_
  refine wl_split rfl rfl rfl (yp_lss rfl rfl rfl) ?_ ?_
  · intro h1_2
    refine wl_read rfl rfl rfl (yl_move rfl rfl) ?_
    refine wl_skip rfl rfl rfl ?_
    refine wl_skip rfl rfl rfl ?_
    refine wl_skip rfl rfl rfl ?_
    refine wl_read rfl rfl rfl (yl_pickT rfl rfl rfl) ?_
    refine wl_read rfl rfl rfl (yl_move rfl rfl) ?_
    refine wl_skip rfl rfl rfl ?_
    refine wl_skip rfl rfl rfl ?_
    refine wl_skip rfl rfl rfl ?_
    refine wl_read rfl rfl rfl (yl_pickT rfl rfl rfl) ?_
    refine wl_read rfl rfl rfl (yl_move rfl rfl) ?_
    refine wl_skip rfl rfl rfl ?_
    refine wl_skip rfl rfl rfl ?_
    refine wl_skip rfl rfl rfl ?_
    refine wl_read rfl rfl rfl (yl_pickT rfl rfl rfl) ?_
    refine wl_nil ?_
    refine at_keep (Keep.cons 0 rfl (Keep.cons 1 rfl (Keep.cons 2 rfl (Keep.cons 20 rfl Keep.nil)))) ?_
    refine at_true rfl ?_
    refine at_seq ?_
    refine at_region ?_
    refine wl_read rfl rfl rfl (yl_assign rfl rfl) ?_
    refine wl_nil ?_
    refine at_keep (Keep.cons 0 rfl (Keep.cons 1 rfl (Keep.cons 2 rfl (Keep.cons 20 rfl Keep.nil)))) ?_
    refine at_retH (fun _ hw => hw.tail) Try.func29 (res1 rfl rfl) ?_
    exact ⟨congrArg Value.bool (decide_eq_false (by unfold okE; omega)).symm, rfl⟩
  · intro h1_2
    refine wl_read rfl rfl rfl (yl_move rfl rfl) ?_
    refine wl_read rfl rfl rfl (yl_fieldB rfl rfl Try.underlying33 rfl (by kernel_rfl) rfl) ?_
    refine wl_read rfl rfl rfl (yl_load rfl rfl Try.underlying3 rfl (CellAt.bk 0 rfl rfl)) ?_
    refine wl_split rfl rfl rfl (yp_gtr rfl rfl rfl) ?_ ?_
    · intro h1_6
      refine wl_read rfl rfl rfl (yl_pickF rfl rfl rfl) ?_
      refine wl_read rfl rfl rfl (yl_move rfl rfl) ?_
      refine wl_skip rfl rfl rfl ?_
      refine wl_skip rfl rfl rfl ?_
      refine wl_skip rfl rfl rfl ?_
      refine wl_read rfl rfl rfl (yl_pickT rfl rfl rfl) ?_
      refine wl_read rfl rfl rfl (yl_move rfl rfl) ?_
      refine wl_skip rfl rfl rfl ?_
      refine wl_skip rfl rfl rfl ?_
      refine wl_skip rfl rfl rfl ?_
      refine wl_read rfl rfl rfl (yl_pickT rfl rfl rfl) ?_
      refine wl_nil ?_
      refine at_keep (Keep.cons 0 rfl (Keep.cons 1 rfl (Keep.cons 2 rfl (Keep.cons 20 rfl Keep.nil)))) ?_
      refine at_true rfl ?_
      refine at_seq ?_
      refine at_region ?_
      refine wl_read rfl rfl rfl (yl_assign rfl rfl) ?_
      refine wl_nil ?_
      refine at_keep (Keep.cons 0 rfl (Keep.cons 1 rfl (Keep.cons 2 rfl (Keep.cons 20 rfl Keep.nil)))) ?_
      refine at_retH (fun _ hw => hw.tail) Try.func29 (res1 rfl rfl) ?_
      exact ⟨congrArg Value.bool (decide_eq_false (by unfold okE; omega)).symm, rfl⟩
    · intro h1_6
      refine wl_read rfl rfl rfl (yl_pickF rfl rfl rfl) ?_
      refine wl_read rfl rfl rfl (yl_move rfl rfl) ?_
      refine wl_read rfl rfl rfl (yl_fieldB rfl rfl Try.underlying33 rfl (by kernel_rfl) rfl) ?_
      refine wl_read rfl rfl rfl (yl_load rfl rfl Try.underlying3 rfl (CellAt.bk 0 rfl rfl)) ?_
      refine wl_split rfl rfl rfl (yp_lss rfl rfl rfl) ?_ ?_
      · intro h1_11
        refine wl_read rfl rfl rfl (yl_pickF rfl rfl rfl) ?_
        refine wl_read rfl rfl rfl (yl_move rfl rfl) ?_
        refine wl_skip rfl rfl rfl ?_
        refine wl_skip rfl rfl rfl ?_
        refine wl_skip rfl rfl rfl ?_
        refine wl_read rfl rfl rfl (yl_pickT rfl rfl rfl) ?_
        refine wl_nil ?_
        refine at_keep (Keep.cons 0 rfl (Keep.cons 1 rfl (Keep.cons 2 rfl (Keep.cons 20 rfl Keep.nil)))) ?_
        refine at_true rfl ?_
        refine at_seq ?_
        refine at_region ?_
        refine wl_read rfl rfl rfl (yl_assign rfl rfl) ?_
        refine wl_nil ?_
        refine at_keep (Keep.cons 0 rfl (Keep.cons 1 rfl (Keep.cons 2 rfl (Keep.cons 20 rfl Keep.nil)))) ?_
        refine at_retH (fun _ hw => hw.tail) Try.func29 (res1 rfl rfl) ?_
        exact ⟨congrArg Value.bool (decide_eq_false (by unfold okE; omega)).symm, rfl⟩
      · intro h1_11
        refine wl_read rfl rfl rfl (yl_pickF rfl rfl rfl) ?_
        refine wl_read rfl rfl rfl (yl_move rfl rfl) ?_
        refine wl_read rfl rfl rfl (yl_fieldB rfl rfl Try.underlying33 rfl (by kernel_rfl) rfl) ?_
        refine wl_read rfl rfl rfl (yl_load rfl rfl Try.underlying3 rfl (CellAt.bk 0 rfl rfl)) ?_
        refine wl_split rfl rfl rfl (yp_gtr rfl rfl rfl) ?_ ?_
        · intro h1_16
          refine wl_read rfl rfl rfl (yl_pickF rfl rfl rfl) ?_
          refine wl_nil ?_
          refine at_keep (Keep.cons 0 rfl (Keep.cons 1 rfl (Keep.cons 2 rfl (Keep.cons 20 rfl Keep.nil)))) ?_
          refine at_true rfl ?_
          refine at_seq ?_
          refine at_region ?_
          refine wl_read rfl rfl rfl (yl_assign rfl rfl) ?_
          refine wl_nil ?_
          refine at_keep (Keep.cons 0 rfl (Keep.cons 1 rfl (Keep.cons 2 rfl (Keep.cons 20 rfl Keep.nil)))) ?_
          refine at_retH (fun _ hw => hw.tail) Try.func29 (res1 rfl rfl) ?_
          exact ⟨congrArg Value.bool (decide_eq_false (by unfold okE; omega)).symm, rfl⟩
        · intro h1_16
          refine wl_read rfl rfl rfl (yl_pickF rfl rfl rfl) ?_
          refine wl_nil ?_
          refine at_keep (Keep.cons 0 rfl (Keep.cons 1 rfl (Keep.cons 2 rfl (Keep.cons 20 rfl Keep.nil)))) ?_
          refine at_false rfl ?_
          refine at_skip ?_
          refine at_seq ?_
          refine at_seq ?_
          refine at_region ?_
          refine wl_read rfl rfl rfl (yl_fieldB rfl rfl Try.underlying33 rfl (by kernel_rfl) rfl) ?_
          refine wl_read rfl rfl rfl (yl_load rfl rfl Try.underlying3 rfl (CellAt.bk 0 rfl rfl)) ?_
          refine wl_nil ?_
          refine at_keep (Keep.cons 0 rfl (Keep.cons 1 rfl (Keep.cons 2 rfl (Keep.cons 20 rfl (Keep.cons 22 rfl Keep.nil))))) ?_
          refine at_block ?_
          refine at_seq ?_
          refine at_region ?_
          refine wl_split rfl rfl rfl (yp_eql rfl rfl rfl) ?_ ?_
          · intro h4_0
            refine wl_read rfl rfl rfl (yl_assign rfl rfl) ?_
            refine wl_nil ?_
            refine at_keep (Keep.cons 0 rfl (Keep.cons 1 rfl (Keep.cons 2 rfl (Keep.cons 20 rfl (Keep.cons 22 rfl (Keep.cons 23 rfl Keep.nil)))))) ?_
            refine at_true rfl ?_
            refine at_seq ?_
            refine at_region ?_
            refine wl_read rfl rfl rfl (yl_fieldB rfl rfl Try.underlying33 rfl (by kernel_rfl) rfl) ?_
            refine wl_read rfl rfl rfl (yl_load rfl rfl Try.underlying3 rfl (CellAt.bk 0 rfl rfl)) ?_
            refine wl_split rfl rfl rfl (yp_eql rfl rfl rfl) ?_ ?_
            · intro h5_2
              refine wl_read rfl rfl rfl (yl_move rfl rfl) ?_
              refine wl_read rfl rfl rfl (yl_fieldB rfl rfl Try.underlying33 rfl (by kernel_rfl) rfl) ?_
              refine wl_read rfl rfl rfl (yl_load rfl rfl Try.underlying3 rfl (CellAt.bk 0 rfl rfl)) ?_
              refine wl_split rfl rfl rfl (yp_eql rfl rfl rfl) ?_ ?_
              · intro h5_6
                refine wl_read rfl rfl rfl (yl_pickT rfl rfl rfl) ?_
                refine wl_read rfl rfl rfl (yl_assign rfl rfl) ?_
                refine wl_nil ?_
                refine at_keep (Keep.cons 0 rfl (Keep.cons 1 rfl (Keep.cons 2 rfl (Keep.cons 20 rfl (Keep.cons 22 rfl (Keep.cons 23 rfl Keep.nil)))))) ?_
                refine at_retH (fun _ hw => hw.tail) Try.func29 (res1 rfl rfl) ?_
                exact ⟨congrArg Value.bool (decide_eq_true (by unfold okE; omega)).symm, rfl⟩
              · intro h5_6
                refine wl_read rfl rfl rfl (yl_pickT rfl rfl rfl) ?_
                refine wl_read rfl rfl rfl (yl_assign rfl rfl) ?_
                refine wl_nil ?_
                refine at_keep (Keep.cons 0 rfl (Keep.cons 1 rfl (Keep.cons 2 rfl (Keep.cons 20 rfl (Keep.cons 22 rfl (Keep.cons 23 rfl Keep.nil)))))) ?_
                refine at_retH (fun _ hw => hw.tail) Try.func29 (res1 rfl rfl) ?_
                exact ⟨congrArg Value.bool (decide_eq_false (by unfold okE; omega)).symm, rfl⟩
            · intro h5_2
              refine wl_read rfl rfl rfl (yl_move rfl rfl) ?_
              refine wl_skip rfl rfl rfl ?_
              refine wl_skip rfl rfl rfl ?_
              refine wl_skip rfl rfl rfl ?_
              refine wl_read rfl rfl rfl (yl_pickF rfl rfl rfl) ?_
              refine wl_read rfl rfl rfl (yl_assign rfl rfl) ?_
              refine wl_nil ?_
              refine at_keep (Keep.cons 0 rfl (Keep.cons 1 rfl (Keep.cons 2 rfl (Keep.cons 20 rfl (Keep.cons 22 rfl (Keep.cons 23 rfl Keep.nil)))))) ?_
              refine at_retH (fun _ hw => hw.tail) Try.func29 (res1 rfl rfl) ?_
              exact ⟨congrArg Value.bool (decide_eq_false (by unfold okE; omega)).symm, rfl⟩
          · intro h4_0
            refine wl_read rfl rfl rfl (yl_assign rfl rfl) ?_
            refine wl_nil ?_
            refine at_keep (Keep.cons 0 rfl (Keep.cons 1 rfl (Keep.cons 2 rfl (Keep.cons 20 rfl (Keep.cons 22 rfl (Keep.cons 23 rfl Keep.nil)))))) ?_
            refine at_false rfl ?_
            refine at_seq ?_
            refine at_seq ?_
            refine at_region ?_
            refine wl_split rfl rfl rfl (yp_eql rfl rfl rfl) ?_ ?_
            · intro h6_0
              refine wl_read rfl rfl rfl (yl_assign rfl rfl) ?_
              refine wl_nil ?_
              refine at_keep (Keep.cons 0 rfl (Keep.cons 1 rfl (Keep.cons 2 rfl (Keep.cons 20 rfl (Keep.cons 22 rfl (Keep.cons 23 rfl (Keep.cons 33 rfl Keep.nil))))))) ?_
              refine at_true rfl ?_
              refine at_skip ?_
              refine at_true rfl ?_
              refine at_seq ?_
              refine at_region ?_
              refine wl_read rfl rfl rfl (yl_fieldB rfl rfl Try.underlying33 rfl (by kernel_rfl) rfl) ?_
              refine wl_read rfl rfl rfl (yl_load rfl rfl Try.underlying3 rfl (CellAt.bk 0 rfl rfl)) ?_
              refine wl_split rfl rfl rfl (yp_geq rfl rfl rfl) ?_ ?_
              · intro h8_2
                refine wl_read rfl rfl rfl (yl_move rfl rfl) ?_
                refine wl_read rfl rfl rfl (yl_fieldB rfl rfl Try.underlying33 rfl (by kernel_rfl) rfl) ?_
                refine wl_read rfl rfl rfl (yl_load rfl rfl Try.underlying3 rfl (CellAt.bk 0 rfl rfl)) ?_
                refine wl_split rfl rfl rfl (yp_lss rfl rfl rfl) ?_ ?_
                · intro h8_6
                  refine wl_read rfl rfl rfl (yl_pickT rfl rfl rfl) ?_
                  refine wl_read rfl rfl rfl (yl_move rfl rfl) ?_
                  refine wl_read rfl rfl rfl (yl_fieldB rfl rfl Try.underlying33 rfl (by kernel_rfl) rfl) ?_
                  refine wl_read rfl rfl rfl (yl_load rfl rfl Try.underlying3 rfl (CellAt.bk 0 rfl rfl)) ?_
                  refine wl_split rfl rfl rfl (yp_geq rfl rfl rfl) ?_ ?_
                  · intro h8_11
                    refine wl_read rfl rfl rfl (yl_pickT rfl rfl rfl) ?_
                    refine wl_read rfl rfl rfl (yl_move rfl rfl) ?_
                    refine wl_read rfl rfl rfl (yl_fieldB rfl rfl Try.underlying33 rfl (by kernel_rfl) rfl) ?_
                    refine wl_read rfl rfl rfl (yl_load rfl rfl Try.underlying3 rfl (CellAt.bk 0 rfl rfl)) ?_
                    refine wl_split rfl rfl rfl (yp_leq rfl rfl rfl) ?_ ?_
                    · intro h8_16
                      refine wl_read rfl rfl rfl (yl_pickT rfl rfl rfl) ?_
                      refine wl_read rfl rfl rfl (yl_assign rfl rfl) ?_
                      refine wl_nil ?_
                      refine at_keep (Keep.cons 0 rfl (Keep.cons 1 rfl (Keep.cons 2 rfl (Keep.cons 20 rfl (Keep.cons 22 rfl (Keep.cons 23 rfl (Keep.cons 33 rfl Keep.nil))))))) ?_
                      refine at_retH (fun _ hw => hw.tail) Try.func29 (res1 rfl rfl) ?_
                      exact ⟨congrArg Value.bool (decide_eq_true (by unfold okE; omega)).symm, rfl⟩
                    · intro h8_16
                      refine wl_read rfl rfl rfl (yl_pickT rfl rfl rfl) ?_
                      refine wl_read rfl rfl rfl (yl_assign rfl rfl) ?_
                      refine wl_nil ?_
                      refine at_keep (Keep.cons 0 rfl (Keep.cons 1 rfl (Keep.cons 2 rfl (Keep.cons 20 rfl (Keep.cons 22 rfl (Keep.cons 23 rfl (Keep.cons 33 rfl Keep.nil))))))) ?_
                      refine at_retH (fun _ hw => hw.tail) Try.func29 (res1 rfl rfl) ?_
                      exact ⟨congrArg Value.bool (decide_eq_false (by unfold okE; omega)).symm, rfl⟩
                  · intro h8_11
                    refine wl_read rfl rfl rfl (yl_pickT rfl rfl rfl) ?_
                    refine wl_read rfl rfl rfl (yl_move rfl rfl) ?_
                    refine wl_skip rfl rfl rfl ?_
                    refine wl_skip rfl rfl rfl ?_
                    refine wl_skip rfl rfl rfl ?_
                    refine wl_read rfl rfl rfl (yl_pickF rfl rfl rfl) ?_
                    refine wl_read rfl rfl rfl (yl_assign rfl rfl) ?_
                    refine wl_nil ?_
                    refine at_keep (Keep.cons 0 rfl (Keep.cons 1 rfl (Keep.cons 2 rfl (Keep.cons 20 rfl (Keep.cons 22 rfl (Keep.cons 23 rfl (Keep.cons 33 rfl Keep.nil))))))) ?_
                    refine at_retH (fun _ hw => hw.tail) Try.func29 (res1 rfl rfl) ?_
                    exact ⟨congrArg Value.bool (decide_eq_false (by unfold okE; omega)).symm, rfl⟩
                · intro h8_6
                  refine wl_read rfl rfl rfl (yl_pickT rfl rfl rfl) ?_
                  refine wl_read rfl rfl rfl (yl_move rfl rfl) ?_
                  refine wl_skip rfl rfl rfl ?_
                  refine wl_skip rfl rfl rfl ?_
                  refine wl_skip rfl rfl rfl ?_
                  refine wl_read rfl rfl rfl (yl_pickF rfl rfl rfl) ?_
                  refine wl_read rfl rfl rfl (yl_move rfl rfl) ?_
                  refine wl_skip rfl rfl rfl ?_
                  refine wl_skip rfl rfl rfl ?_
                  refine wl_skip rfl rfl rfl ?_
                  refine wl_read rfl rfl rfl (yl_pickF rfl rfl rfl) ?_
                  refine wl_read rfl rfl rfl (yl_assign rfl rfl) ?_
                  refine wl_nil ?_
                  refine at_keep (Keep.cons 0 rfl (Keep.cons 1 rfl (Keep.cons 2 rfl (Keep.cons 20 rfl (Keep.cons 22 rfl (Keep.cons 23 rfl (Keep.cons 33 rfl Keep.nil))))))) ?_
                  refine at_retH (fun _ hw => hw.tail) Try.func29 (res1 rfl rfl) ?_
                  exact ⟨congrArg Value.bool (decide_eq_false (by unfold okE; omega)).symm, rfl⟩
              · intro h8_2
                refine wl_read rfl rfl rfl (yl_move rfl rfl) ?_
                refine wl_skip rfl rfl rfl ?_
                refine wl_skip rfl rfl rfl ?_
                refine wl_skip rfl rfl rfl ?_
                refine wl_read rfl rfl rfl (yl_pickF rfl rfl rfl) ?_
                refine wl_read rfl rfl rfl (yl_move rfl rfl) ?_
                refine wl_skip rfl rfl rfl ?_
                refine wl_skip rfl rfl rfl ?_
                refine wl_skip rfl rfl rfl ?_
                refine wl_read rfl rfl rfl (yl_pickF rfl rfl rfl) ?_
                refine wl_read rfl rfl rfl (yl_move rfl rfl) ?_
                refine wl_skip rfl rfl rfl ?_
                refine wl_skip rfl rfl rfl ?_
                refine wl_skip rfl rfl rfl ?_
                refine wl_read rfl rfl rfl (yl_pickF rfl rfl rfl) ?_
                refine wl_read rfl rfl rfl (yl_assign rfl rfl) ?_
                refine wl_nil ?_
                refine at_keep (Keep.cons 0 rfl (Keep.cons 1 rfl (Keep.cons 2 rfl (Keep.cons 20 rfl (Keep.cons 22 rfl (Keep.cons 23 rfl (Keep.cons 33 rfl Keep.nil))))))) ?_
                refine at_retH (fun _ hw => hw.tail) Try.func29 (res1 rfl rfl) ?_
                exact ⟨congrArg Value.bool (decide_eq_false (by unfold okE; omega)).symm, rfl⟩
            · intro h6_0
              refine wl_read rfl rfl rfl (yl_assign rfl rfl) ?_
              refine wl_nil ?_
              refine at_keep (Keep.cons 0 rfl (Keep.cons 1 rfl (Keep.cons 2 rfl (Keep.cons 20 rfl (Keep.cons 22 rfl (Keep.cons 23 rfl (Keep.cons 33 rfl Keep.nil))))))) ?_
              refine at_false rfl ?_
              refine at_region ?_
              refine wl_split rfl rfl rfl (yp_eql rfl rfl rfl) ?_ ?_
              · intro h7_0
                refine wl_read rfl rfl rfl (yl_assign rfl rfl) ?_
                refine wl_nil ?_
                refine at_keep (Keep.cons 0 rfl (Keep.cons 1 rfl (Keep.cons 2 rfl (Keep.cons 20 rfl (Keep.cons 22 rfl (Keep.cons 23 rfl (Keep.cons 33 rfl Keep.nil))))))) ?_
                refine at_true rfl ?_
                refine at_seq ?_
                refine at_region ?_
                refine wl_read rfl rfl rfl (yl_fieldB rfl rfl Try.underlying33 rfl (by kernel_rfl) rfl) ?_
                refine wl_read rfl rfl rfl (yl_load rfl rfl Try.underlying3 rfl (CellAt.bk 0 rfl rfl)) ?_
                refine wl_split rfl rfl rfl (yp_geq rfl rfl rfl) ?_ ?_
                · intro h8_2
                  refine wl_read rfl rfl rfl (yl_move rfl rfl) ?_
                  refine wl_read rfl rfl rfl (yl_fieldB rfl rfl Try.underlying33 rfl (by kernel_rfl) rfl) ?_
                  refine wl_read rfl rfl rfl (yl_load rfl rfl Try.underlying3 rfl (CellAt.bk 0 rfl rfl)) ?_
                  refine wl_split rfl rfl rfl (yp_lss rfl rfl rfl) ?_ ?_
                  · intro h8_6
                    refine wl_read rfl rfl rfl (yl_pickT rfl rfl rfl) ?_
                    refine wl_read rfl rfl rfl (yl_move rfl rfl) ?_
                    refine wl_read rfl rfl rfl (yl_fieldB rfl rfl Try.underlying33 rfl (by kernel_rfl) rfl) ?_
                    refine wl_read rfl rfl rfl (yl_load rfl rfl Try.underlying3 rfl (CellAt.bk 0 rfl rfl)) ?_
                    refine wl_split rfl rfl rfl (yp_geq rfl rfl rfl) ?_ ?_
                    · intro h8_11
                      refine wl_read rfl rfl rfl (yl_pickT rfl rfl rfl) ?_
                      refine wl_read rfl rfl rfl (yl_move rfl rfl) ?_
                      refine wl_read rfl rfl rfl (yl_fieldB rfl rfl Try.underlying33 rfl (by kernel_rfl) rfl) ?_
                      refine wl_read rfl rfl rfl (yl_load rfl rfl Try.underlying3 rfl (CellAt.bk 0 rfl rfl)) ?_
                      refine wl_split rfl rfl rfl (yp_leq rfl rfl rfl) ?_ ?_
                      · intro h8_16
                        refine wl_read rfl rfl rfl (yl_pickT rfl rfl rfl) ?_
                        refine wl_read rfl rfl rfl (yl_assign rfl rfl) ?_
                        refine wl_nil ?_
                        refine at_keep (Keep.cons 0 rfl (Keep.cons 1 rfl (Keep.cons 2 rfl (Keep.cons 20 rfl (Keep.cons 22 rfl (Keep.cons 23 rfl (Keep.cons 33 rfl Keep.nil))))))) ?_
                        refine at_retH (fun _ hw => hw.tail) Try.func29 (res1 rfl rfl) ?_
                        exact ⟨congrArg Value.bool (decide_eq_true (by unfold okE; omega)).symm, rfl⟩
                      · intro h8_16
                        refine wl_read rfl rfl rfl (yl_pickT rfl rfl rfl) ?_
                        refine wl_read rfl rfl rfl (yl_assign rfl rfl) ?_
                        refine wl_nil ?_
                        refine at_keep (Keep.cons 0 rfl (Keep.cons 1 rfl (Keep.cons 2 rfl (Keep.cons 20 rfl (Keep.cons 22 rfl (Keep.cons 23 rfl (Keep.cons 33 rfl Keep.nil))))))) ?_
                        refine at_retH (fun _ hw => hw.tail) Try.func29 (res1 rfl rfl) ?_
                        exact ⟨congrArg Value.bool (decide_eq_false (by unfold okE; omega)).symm, rfl⟩
                    · intro h8_11
                      refine wl_read rfl rfl rfl (yl_pickT rfl rfl rfl) ?_
                      refine wl_read rfl rfl rfl (yl_move rfl rfl) ?_
                      refine wl_skip rfl rfl rfl ?_
                      refine wl_skip rfl rfl rfl ?_
                      refine wl_skip rfl rfl rfl ?_
                      refine wl_read rfl rfl rfl (yl_pickF rfl rfl rfl) ?_
                      refine wl_read rfl rfl rfl (yl_assign rfl rfl) ?_
                      refine wl_nil ?_
                      refine at_keep (Keep.cons 0 rfl (Keep.cons 1 rfl (Keep.cons 2 rfl (Keep.cons 20 rfl (Keep.cons 22 rfl (Keep.cons 23 rfl (Keep.cons 33 rfl Keep.nil))))))) ?_
                      refine at_retH (fun _ hw => hw.tail) Try.func29 (res1 rfl rfl) ?_
                      exact ⟨congrArg Value.bool (decide_eq_false (by unfold okE; omega)).symm, rfl⟩
                  · intro h8_6
                    refine wl_read rfl rfl rfl (yl_pickT rfl rfl rfl) ?_
                    refine wl_read rfl rfl rfl (yl_move rfl rfl) ?_
                    refine wl_skip rfl rfl rfl ?_
                    refine wl_skip rfl rfl rfl ?_
                    refine wl_skip rfl rfl rfl ?_
                    refine wl_read rfl rfl rfl (yl_pickF rfl rfl rfl) ?_
                    refine wl_read rfl rfl rfl (yl_move rfl rfl) ?_
                    refine wl_skip rfl rfl rfl ?_
                    refine wl_skip rfl rfl rfl ?_
                    refine wl_skip rfl rfl rfl ?_
                    refine wl_read rfl rfl rfl (yl_pickF rfl rfl rfl) ?_
                    refine wl_read rfl rfl rfl (yl_assign rfl rfl) ?_
                    refine wl_nil ?_
                    refine at_keep (Keep.cons 0 rfl (Keep.cons 1 rfl (Keep.cons 2 rfl (Keep.cons 20 rfl (Keep.cons 22 rfl (Keep.cons 23 rfl (Keep.cons 33 rfl Keep.nil))))))) ?_
                    refine at_retH (fun _ hw => hw.tail) Try.func29 (res1 rfl rfl) ?_
                    exact ⟨congrArg Value.bool (decide_eq_false (by unfold okE; omega)).symm, rfl⟩
                · intro h8_2
                  refine wl_read rfl rfl rfl (yl_move rfl rfl) ?_
                  refine wl_skip rfl rfl rfl ?_
                  refine wl_skip rfl rfl rfl ?_
                  refine wl_skip rfl rfl rfl ?_
                  refine wl_read rfl rfl rfl (yl_pickF rfl rfl rfl) ?_
                  refine wl_read rfl rfl rfl (yl_move rfl rfl) ?_
                  refine wl_skip rfl rfl rfl ?_
                  refine wl_skip rfl rfl rfl ?_
                  refine wl_skip rfl rfl rfl ?_
                  refine wl_read rfl rfl rfl (yl_pickF rfl rfl rfl) ?_
                  refine wl_read rfl rfl rfl (yl_move rfl rfl) ?_
                  refine wl_skip rfl rfl rfl ?_
                  refine wl_skip rfl rfl rfl ?_
                  refine wl_skip rfl rfl rfl ?_
                  refine wl_read rfl rfl rfl (yl_pickF rfl rfl rfl) ?_
                  refine wl_read rfl rfl rfl (yl_assign rfl rfl) ?_
                  refine wl_nil ?_
                  refine at_keep (Keep.cons 0 rfl (Keep.cons 1 rfl (Keep.cons 2 rfl (Keep.cons 20 rfl (Keep.cons 22 rfl (Keep.cons 23 rfl (Keep.cons 33 rfl Keep.nil))))))) ?_
                  refine at_retH (fun _ hw => hw.tail) Try.func29 (res1 rfl rfl) ?_
                  exact ⟨congrArg Value.bool (decide_eq_false (by unfold okE; omega)).symm, rfl⟩
              · intro h7_0
                refine wl_read rfl rfl rfl (yl_assign rfl rfl) ?_
                refine wl_nil ?_
                refine at_keep (Keep.cons 0 rfl (Keep.cons 1 rfl (Keep.cons 2 rfl (Keep.cons 20 rfl (Keep.cons 22 rfl (Keep.cons 23 rfl (Keep.cons 33 rfl Keep.nil))))))) ?_
                refine at_false rfl ?_
                refine at_skip ?_
                refine at_inBlock ?_
                refine at_seq ?_
                refine at_region ?_
                refine wl_read rfl rfl rfl (yl_assign rfl rfl) ?_
                refine wl_nil ?_
                refine at_keep (Keep.cons 0 rfl (Keep.cons 1 rfl (Keep.cons 2 rfl (Keep.cons 20 rfl (Keep.cons 22 rfl (Keep.cons 23 rfl (Keep.cons 33 rfl Keep.nil))))))) ?_
                refine at_retH (fun _ hw => hw.tail) Try.func29 (res1 rfl rfl) ?_
                exact ⟨congrArg Value.bool (decide_eq_false (by unfold okE; omega)).symm, rfl⟩
theorem entry_fn (e : Entry) (b : World) (H : List Asr) : Fn Try.prog 31 [.agg (Enc.cells e).toArray] b H (fun v H' => v = .bool (decide (okE e)) ∧ H = H') := by
  refine fn_of_at (by kernel_rfl) Try.func31 rfl Try.ntmps31 rfl rfl ?_
  refine at_seq ?_
  refine at_region ?_
  refine wl_eff rfl rfl rfl (ef_box rfl rfl rfl) ?_
  rintro _ _ ⟨g0, rfl, rfl⟩
  refine wl_read rfl rfl rfl (yl_assign rfl rfl) ?_
  refine wl_nil ?_
  refine at_keep (Keep.cons 0 rfl (Keep.cons 1 rfl (Keep.cons 2 rfl Keep.nil))) ?_
  refine at_seq ?_
  refine at_seq ?_
  refine at_region ?_
  refine wl_read rfl rfl rfl (yl_fieldB rfl rfl Try.underlying33 rfl (by kernel_rfl) rfl) ?_
  refine wl_read rfl rfl rfl (yl_load rfl rfl Try.underlying3 rfl (CellAt.bk 0 rfl rfl)) ?_
  refine wl_split rfl rfl rfl (yp_lss rfl rfl rfl) ?_ ?_
  · intro h1_2
    refine wl_read rfl rfl rfl (yl_move rfl rfl) ?_
    refine wl_skip rfl rfl rfl ?_
    refine wl_skip rfl rfl rfl ?_
    refine wl_skip rfl rfl rfl ?_
    refine wl_read rfl rfl rfl (yl_pickT rfl rfl rfl) ?_
    refine wl_read rfl rfl rfl (yl_move rfl rfl) ?_
    refine wl_skip rfl rfl rfl ?_
    refine wl_skip rfl rfl rfl ?_
    refine wl_skip rfl rfl rfl ?_
    refine wl_skip rfl rfl rfl ?_
    refine wl_read rfl rfl rfl (yl_pickT rfl rfl rfl) ?_
    refine wl_read rfl rfl rfl (yl_move rfl rfl) ?_
    refine wl_skip rfl rfl rfl ?_
    refine wl_skip rfl rfl rfl ?_
    refine wl_skip rfl rfl rfl ?_
    refine wl_read rfl rfl rfl (yl_pickT rfl rfl rfl) ?_
    refine wl_read rfl rfl rfl (yl_move rfl rfl) ?_
    refine wl_skip rfl rfl rfl ?_
    refine wl_skip rfl rfl rfl ?_
    refine wl_skip rfl rfl rfl ?_
    refine wl_read rfl rfl rfl (yl_pickT rfl rfl rfl) ?_
    refine wl_nil ?_
    refine at_keep (Keep.cons 0 rfl (Keep.cons 1 rfl (Keep.cons 2 rfl (Keep.cons 26 rfl Keep.nil)))) ?_
    refine at_true rfl ?_
    refine at_seq ?_
    refine at_region ?_
    refine wl_read rfl rfl rfl (yl_assign rfl rfl) ?_
    refine wl_nil ?_
    refine at_keep (Keep.cons 0 rfl (Keep.cons 1 rfl (Keep.cons 2 rfl (Keep.cons 26 rfl Keep.nil)))) ?_
    refine at_retH (fun _ hw => hw.tail) Try.func31 (res1 rfl rfl) ?_
    exact ⟨congrArg Value.bool (decide_eq_false (by unfold okE; omega)).symm, rfl⟩
  · intro h1_2
    refine wl_read rfl rfl rfl (yl_move rfl rfl) ?_
    refine wl_read rfl rfl rfl (yl_fieldB rfl rfl Try.underlying33 rfl (by kernel_rfl) rfl) ?_
    refine wl_read rfl rfl rfl (yl_load rfl rfl Try.underlying3 rfl (CellAt.bk 0 rfl rfl)) ?_
    refine wl_split rfl rfl rfl (yp_gtr rfl rfl rfl) ?_ ?_
    · intro h1_6
      refine wl_read rfl rfl rfl (yl_pickF rfl rfl rfl) ?_
      refine wl_read rfl rfl rfl (yl_move rfl rfl) ?_
      refine wl_skip rfl rfl rfl ?_
      refine wl_skip rfl rfl rfl ?_
      refine wl_skip rfl rfl rfl ?_
      refine wl_skip rfl rfl rfl ?_
      refine wl_read rfl rfl rfl (yl_pickT rfl rfl rfl) ?_
      refine wl_read rfl rfl rfl (yl_move rfl rfl) ?_
      refine wl_skip rfl rfl rfl ?_
      refine wl_skip rfl rfl rfl ?_
      refine wl_skip rfl rfl rfl ?_
      refine wl_read rfl rfl rfl (yl_pickT rfl rfl rfl) ?_
      refine wl_read rfl rfl rfl (yl_move rfl rfl) ?_
      refine wl_skip rfl rfl rfl ?_
      refine wl_skip rfl rfl rfl ?_
      refine wl_skip rfl rfl rfl ?_
      refine wl_read rfl rfl rfl (yl_pickT rfl rfl rfl) ?_
      refine wl_nil ?_
      refine at_keep (Keep.cons 0 rfl (Keep.cons 1 rfl (Keep.cons 2 rfl (Keep.cons 26 rfl Keep.nil)))) ?_
      refine at_true rfl ?_
      refine at_seq ?_
      refine at_region ?_
      refine wl_read rfl rfl rfl (yl_assign rfl rfl) ?_
      refine wl_nil ?_
      refine at_keep (Keep.cons 0 rfl (Keep.cons 1 rfl (Keep.cons 2 rfl (Keep.cons 26 rfl Keep.nil)))) ?_
      refine at_retH (fun _ hw => hw.tail) Try.func31 (res1 rfl rfl) ?_
      exact ⟨congrArg Value.bool (decide_eq_false (by unfold okE; omega)).symm, rfl⟩
    · intro h1_6
      refine wl_read rfl rfl rfl (yl_pickF rfl rfl rfl) ?_
      refine wl_read rfl rfl rfl (yl_move rfl rfl) ?_
      refine wl_read rfl rfl rfl (yl_fieldB rfl rfl Try.underlying33 rfl (by kernel_rfl) rfl) ?_
      refine wl_read rfl rfl rfl (yl_load rfl rfl Try.underlying3 rfl (CellAt.bk 0 rfl rfl)) ?_
      refine wl_call rfl rfl rfl (en_call rfl rfl) (month_fn e.month _ _) ?_
      rintro _ _ ⟨rfl, rfl⟩
      rcases Classical.em (0 ≤ e.month ∧ e.month ≤ 2399) with hm | hm
      ·
        rw [decide_eq_true hm]
        refine wl_read rfl rfl rfl (yl_notT rfl rfl) ?_
        refine wl_read rfl rfl rfl (yl_pickF rfl rfl rfl) ?_
        refine wl_read rfl rfl rfl (yl_move rfl rfl) ?_
        refine wl_read rfl rfl rfl (yl_fieldB rfl rfl Try.underlying33 rfl (by kernel_rfl) rfl) ?_
        refine wl_read rfl rfl rfl (yl_load rfl rfl Try.underlying3 rfl (CellAt.bk 0 rfl rfl)) ?_
        refine wl_split rfl rfl rfl (yp_lss rfl rfl rfl) ?_ ?_
        · intro h1_17
          refine wl_read rfl rfl rfl (yl_pickF rfl rfl rfl) ?_
          refine wl_read rfl rfl rfl (yl_move rfl rfl) ?_
          refine wl_skip rfl rfl rfl ?_
          refine wl_skip rfl rfl rfl ?_
          refine wl_skip rfl rfl rfl ?_
          refine wl_read rfl rfl rfl (yl_pickT rfl rfl rfl) ?_
          refine wl_nil ?_
          refine at_keep (Keep.cons 0 rfl (Keep.cons 1 rfl (Keep.cons 2 rfl (Keep.cons 26 rfl Keep.nil)))) ?_
          refine at_true rfl ?_
          refine at_seq ?_
          refine at_region ?_
          refine wl_read rfl rfl rfl (yl_assign rfl rfl) ?_
          refine wl_nil ?_
          refine at_keep (Keep.cons 0 rfl (Keep.cons 1 rfl (Keep.cons 2 rfl (Keep.cons 26 rfl Keep.nil)))) ?_
          refine at_retH (fun _ hw => hw.tail) Try.func31 (res1 rfl rfl) ?_
          exact ⟨congrArg Value.bool (decide_eq_false (by unfold okE; omega)).symm, rfl⟩
        · intro h1_17
          refine wl_read rfl rfl rfl (yl_pickF rfl rfl rfl) ?_
          refine wl_read rfl rfl rfl (yl_move rfl rfl) ?_
          refine wl_read rfl rfl rfl (yl_fieldB rfl rfl Try.underlying33 rfl (by kernel_rfl) rfl) ?_
          refine wl_read rfl rfl rfl (yl_load rfl rfl Try.underlying3 rfl (CellAt.bk 0 rfl rfl)) ?_
          refine wl_split rfl rfl rfl (yp_gtr rfl rfl rfl) ?_ ?_
          · intro h1_22
            refine wl_read rfl rfl rfl (yl_pickF rfl rfl rfl) ?_
            refine wl_nil ?_
            refine at_keep (Keep.cons 0 rfl (Keep.cons 1 rfl (Keep.cons 2 rfl (Keep.cons 26 rfl Keep.nil)))) ?_
            refine at_true rfl ?_
            refine at_seq ?_
            refine at_region ?_
            refine wl_read rfl rfl rfl (yl_assign rfl rfl) ?_
            refine wl_nil ?_
            refine at_keep (Keep.cons 0 rfl (Keep.cons 1 rfl (Keep.cons 2 rfl (Keep.cons 26 rfl Keep.nil)))) ?_
            refine at_retH (fun _ hw => hw.tail) Try.func31 (res1 rfl rfl) ?_
            exact ⟨congrArg Value.bool (decide_eq_false (by unfold okE; omega)).symm, rfl⟩
          · intro h1_22
            refine wl_read rfl rfl rfl (yl_pickF rfl rfl rfl) ?_
            refine wl_nil ?_
            refine at_keep (Keep.cons 0 rfl (Keep.cons 1 rfl (Keep.cons 2 rfl (Keep.cons 26 rfl Keep.nil)))) ?_
            refine at_false rfl ?_
            refine at_skip ?_
            refine at_seq ?_
            refine at_seq ?_
            refine at_region ?_
            refine wl_read rfl rfl rfl (yl_fieldB rfl rfl Try.underlying33 rfl (by kernel_rfl) rfl) ?_
            refine wl_read rfl rfl rfl (yl_load rfl rfl Try.underlying3 rfl (CellAt.bk 0 rfl rfl)) ?_
            refine wl_split rfl rfl rfl (yp_eql rfl rfl rfl) ?_ ?_
            · intro h3_2
              refine wl_nil ?_
              refine at_keep (Keep.cons 0 rfl (Keep.cons 1 rfl (Keep.cons 2 rfl (Keep.cons 26 rfl (Keep.cons 29 rfl Keep.nil))))) ?_
              refine at_true rfl ?_
              refine at_seq ?_
              refine at_region ?_
              refine wl_read rfl rfl rfl (yl_fieldB rfl rfl Try.underlying33 rfl (by kernel_rfl) rfl) ?_
              refine wl_read rfl rfl rfl (yl_load rfl rfl Try.underlying3 rfl (CellAt.bk 0 rfl rfl)) ?_
              refine wl_split rfl rfl rfl (yp_eql rfl rfl rfl) ?_ ?_
              · intro h4_2
                refine wl_read rfl rfl rfl (yl_move rfl rfl) ?_
                refine wl_read rfl rfl rfl (yl_fieldB rfl rfl Try.underlying33 rfl (by kernel_rfl) rfl) ?_
                refine wl_read rfl rfl rfl (yl_load rfl rfl Try.underlying3 rfl (CellAt.bk 0 rfl rfl)) ?_
                refine wl_split rfl rfl rfl (yp_eql rfl rfl rfl) ?_ ?_
                · intro h4_6
                  refine wl_read rfl rfl rfl (yl_pickT rfl rfl rfl) ?_
                  refine wl_read rfl rfl rfl (yl_assign rfl rfl) ?_
                  refine wl_nil ?_
                  refine at_keep (Keep.cons 0 rfl (Keep.cons 1 rfl (Keep.cons 2 rfl (Keep.cons 26 rfl (Keep.cons 29 rfl Keep.nil))))) ?_
                  refine at_retH (fun _ hw => hw.tail) Try.func31 (res1 rfl rfl) ?_
                  exact ⟨congrArg Value.bool (decide_eq_true (by unfold okE; omega)).symm, rfl⟩
                · intro h4_6
                  refine wl_read rfl rfl rfl (yl_pickT rfl rfl rfl) ?_
                  refine wl_read rfl rfl rfl (yl_assign rfl rfl) ?_
                  refine wl_nil ?_
                  refine at_keep (Keep.cons 0 rfl (Keep.cons 1 rfl (Keep.cons 2 rfl (Keep.cons 26 rfl (Keep.cons 29 rfl Keep.nil))))) ?_
                  refine at_retH (fun _ hw => hw.tail) Try.func31 (res1 rfl rfl) ?_
                  exact ⟨congrArg Value.bool (decide_eq_false (by unfold okE; omega)).symm, rfl⟩
              · intro h4_2
                refine wl_read rfl rfl rfl (yl_move rfl rfl) ?_
                refine wl_skip rfl rfl rfl ?_
                refine wl_skip rfl rfl rfl ?_
                refine wl_skip rfl rfl rfl ?_
                refine wl_read rfl rfl rfl (yl_pickF rfl rfl rfl) ?_
                refine wl_read rfl rfl rfl (yl_assign rfl rfl) ?_
                refine wl_nil ?_
                refine at_keep (Keep.cons 0 rfl (Keep.cons 1 rfl (Keep.cons 2 rfl (Keep.cons 26 rfl (Keep.cons 29 rfl Keep.nil))))) ?_
                refine at_retH (fun _ hw => hw.tail) Try.func31 (res1 rfl rfl) ?_
                exact ⟨congrArg Value.bool (decide_eq_false (by unfold okE; omega)).symm, rfl⟩
            · intro h3_2
              refine wl_nil ?_
              refine at_keep (Keep.cons 0 rfl (Keep.cons 1 rfl (Keep.cons 2 rfl (Keep.cons 26 rfl (Keep.cons 29 rfl Keep.nil))))) ?_
              refine at_false rfl ?_
              refine at_skip ?_
              refine at_seq ?_
              refine at_region ?_
              refine wl_read rfl rfl rfl (yl_fieldB rfl rfl Try.underlying33 rfl (by kernel_rfl) rfl) ?_
              refine wl_read rfl rfl rfl (yl_load rfl rfl Try.underlying3 rfl (CellAt.bk 0 rfl rfl)) ?_
              refine wl_split rfl rfl rfl (yp_geq rfl rfl rfl) ?_ ?_
              · intro h5_2
                refine wl_read rfl rfl rfl (yl_move rfl rfl) ?_
                refine wl_read rfl rfl rfl (yl_fieldB rfl rfl Try.underlying33 rfl (by kernel_rfl) rfl) ?_
                refine wl_read rfl rfl rfl (yl_load rfl rfl Try.underlying3 rfl (CellAt.bk 0 rfl rfl)) ?_
                refine wl_split rfl rfl rfl (yp_lss rfl rfl rfl) ?_ ?_
                · intro h5_6
                  refine wl_read rfl rfl rfl (yl_pickT rfl rfl rfl) ?_
                  refine wl_read rfl rfl rfl (yl_move rfl rfl) ?_
                  refine wl_read rfl rfl rfl (yl_fieldB rfl rfl Try.underlying33 rfl (by kernel_rfl) rfl) ?_
                  refine wl_read rfl rfl rfl (yl_load rfl rfl Try.underlying3 rfl (CellAt.bk 0 rfl rfl)) ?_
                  refine wl_split rfl rfl rfl (yp_geq rfl rfl rfl) ?_ ?_
                  · intro h5_11
                    refine wl_read rfl rfl rfl (yl_pickT rfl rfl rfl) ?_
                    refine wl_read rfl rfl rfl (yl_move rfl rfl) ?_
                    refine wl_read rfl rfl rfl (yl_fieldB rfl rfl Try.underlying33 rfl (by kernel_rfl) rfl) ?_
                    refine wl_read rfl rfl rfl (yl_load rfl rfl Try.underlying3 rfl (CellAt.bk 0 rfl rfl)) ?_
                    refine wl_split rfl rfl rfl (yp_leq rfl rfl rfl) ?_ ?_
                    · intro h5_16
                      refine wl_read rfl rfl rfl (yl_pickT rfl rfl rfl) ?_
                      refine wl_read rfl rfl rfl (yl_assign rfl rfl) ?_
                      refine wl_nil ?_
                      refine at_keep (Keep.cons 0 rfl (Keep.cons 1 rfl (Keep.cons 2 rfl (Keep.cons 26 rfl (Keep.cons 29 rfl Keep.nil))))) ?_
                      refine at_retH (fun _ hw => hw.tail) Try.func31 (res1 rfl rfl) ?_
                      exact ⟨congrArg Value.bool (decide_eq_true (by unfold okE; omega)).symm, rfl⟩
                    · intro h5_16
                      refine wl_read rfl rfl rfl (yl_pickT rfl rfl rfl) ?_
                      refine wl_read rfl rfl rfl (yl_assign rfl rfl) ?_
                      refine wl_nil ?_
                      refine at_keep (Keep.cons 0 rfl (Keep.cons 1 rfl (Keep.cons 2 rfl (Keep.cons 26 rfl (Keep.cons 29 rfl Keep.nil))))) ?_
                      refine at_retH (fun _ hw => hw.tail) Try.func31 (res1 rfl rfl) ?_
                      exact ⟨congrArg Value.bool (decide_eq_false (by unfold okE; omega)).symm, rfl⟩
                  · intro h5_11
                    refine wl_read rfl rfl rfl (yl_pickT rfl rfl rfl) ?_
                    refine wl_read rfl rfl rfl (yl_move rfl rfl) ?_
                    refine wl_skip rfl rfl rfl ?_
                    refine wl_skip rfl rfl rfl ?_
                    refine wl_skip rfl rfl rfl ?_
                    refine wl_read rfl rfl rfl (yl_pickF rfl rfl rfl) ?_
                    refine wl_read rfl rfl rfl (yl_assign rfl rfl) ?_
                    refine wl_nil ?_
                    refine at_keep (Keep.cons 0 rfl (Keep.cons 1 rfl (Keep.cons 2 rfl (Keep.cons 26 rfl (Keep.cons 29 rfl Keep.nil))))) ?_
                    refine at_retH (fun _ hw => hw.tail) Try.func31 (res1 rfl rfl) ?_
                    exact ⟨congrArg Value.bool (decide_eq_false (by unfold okE; omega)).symm, rfl⟩
                · intro h5_6
                  refine wl_read rfl rfl rfl (yl_pickT rfl rfl rfl) ?_
                  refine wl_read rfl rfl rfl (yl_move rfl rfl) ?_
                  refine wl_skip rfl rfl rfl ?_
                  refine wl_skip rfl rfl rfl ?_
                  refine wl_skip rfl rfl rfl ?_
                  refine wl_read rfl rfl rfl (yl_pickF rfl rfl rfl) ?_
                  refine wl_read rfl rfl rfl (yl_move rfl rfl) ?_
                  refine wl_skip rfl rfl rfl ?_
                  refine wl_skip rfl rfl rfl ?_
                  refine wl_skip rfl rfl rfl ?_
                  refine wl_read rfl rfl rfl (yl_pickF rfl rfl rfl) ?_
                  refine wl_read rfl rfl rfl (yl_assign rfl rfl) ?_
                  refine wl_nil ?_
                  refine at_keep (Keep.cons 0 rfl (Keep.cons 1 rfl (Keep.cons 2 rfl (Keep.cons 26 rfl (Keep.cons 29 rfl Keep.nil))))) ?_
                  refine at_retH (fun _ hw => hw.tail) Try.func31 (res1 rfl rfl) ?_
                  exact ⟨congrArg Value.bool (decide_eq_false (by unfold okE; omega)).symm, rfl⟩
              · intro h5_2
                refine wl_read rfl rfl rfl (yl_move rfl rfl) ?_
                refine wl_skip rfl rfl rfl ?_
                refine wl_skip rfl rfl rfl ?_
                refine wl_skip rfl rfl rfl ?_
                refine wl_read rfl rfl rfl (yl_pickF rfl rfl rfl) ?_
                refine wl_read rfl rfl rfl (yl_move rfl rfl) ?_
                refine wl_skip rfl rfl rfl ?_
                refine wl_skip rfl rfl rfl ?_
                refine wl_skip rfl rfl rfl ?_
                refine wl_read rfl rfl rfl (yl_pickF rfl rfl rfl) ?_
                refine wl_read rfl rfl rfl (yl_move rfl rfl) ?_
                refine wl_skip rfl rfl rfl ?_
                refine wl_skip rfl rfl rfl ?_
                refine wl_skip rfl rfl rfl ?_
                refine wl_read rfl rfl rfl (yl_pickF rfl rfl rfl) ?_
                refine wl_read rfl rfl rfl (yl_assign rfl rfl) ?_
                refine wl_nil ?_
                refine at_keep (Keep.cons 0 rfl (Keep.cons 1 rfl (Keep.cons 2 rfl (Keep.cons 26 rfl (Keep.cons 29 rfl Keep.nil))))) ?_
                refine at_retH (fun _ hw => hw.tail) Try.func31 (res1 rfl rfl) ?_
                exact ⟨congrArg Value.bool (decide_eq_false (by unfold okE; omega)).symm, rfl⟩
      ·
        rw [decide_eq_false hm]
        refine wl_read rfl rfl rfl (yl_notF rfl rfl) ?_
        refine wl_read rfl rfl rfl (yl_pickF rfl rfl rfl) ?_
        refine wl_read rfl rfl rfl (yl_move rfl rfl) ?_
        refine wl_skip rfl rfl rfl ?_
        refine wl_skip rfl rfl rfl ?_
        refine wl_skip rfl rfl rfl ?_
        refine wl_read rfl rfl rfl (yl_pickT rfl rfl rfl) ?_
        refine wl_read rfl rfl rfl (yl_move rfl rfl) ?_
        refine wl_skip rfl rfl rfl ?_
        refine wl_skip rfl rfl rfl ?_
        refine wl_skip rfl rfl rfl ?_
        refine wl_read rfl rfl rfl (yl_pickT rfl rfl rfl) ?_
        refine wl_nil ?_
        refine at_keep (Keep.cons 0 rfl (Keep.cons 1 rfl (Keep.cons 2 rfl (Keep.cons 26 rfl Keep.nil)))) ?_
        refine at_true rfl ?_
        refine at_seq ?_
        refine at_region ?_
        refine wl_read rfl rfl rfl (yl_assign rfl rfl) ?_
        refine wl_nil ?_
        refine at_keep (Keep.cons 0 rfl (Keep.cons 1 rfl (Keep.cons 2 rfl (Keep.cons 26 rfl Keep.nil)))) ?_
        refine at_retH (fun _ hw => hw.tail) Try.func31 (res1 rfl rfl) ?_
        exact ⟨congrArg Value.bool (decide_eq_false (by unfold okE; omega)).symm, rfl⟩
end Go.Proofs.Ytplaoddmgfcbcaa

/- Walks of the plain helpers: Mod, Amount, ValidMonth. -/
import Derived.Test.YteckaphnapljnaaM
import Derived.Test.YteckaphnapljnaaRows
namespace Go.Proofs.Yteckaphnapljnaa
open Go


theorem mod_fn (n m : Int) (b : World) (H : List Asr) (hm : 0 < m) (hm2 : m ≤ 4611686018427387904) : Fn Try.prog 19 [.int .i64 n, .int .i64 m] b H (fun v H' => v = .int .i64 (md n m) ∧ H = H') := by
  have hb1 := Int.tmod_lt_of_pos n hm
  have hb2 : -m < n.tmod m := by
    have := Int.tmod_lt_of_pos (-n) hm
    rw [Int.neg_tmod] at this
    omega
  refine fn_of_at (by kernel_rfl) Try.func19 rfl Try.ntmps19 rfl rfl ?_
  refine at_seq ?_
  refine at_region ?_
  refine wl_read rfl rfl rfl (yl_assign rfl rfl) ?_
  refine wl_nil ?_
  refine at_keep (Keep.cons 0 rfl (Keep.cons 1 rfl (Keep.cons 4 rfl Keep.nil))) ?_
  refine at_seq ?_
  refine at_region ?_
  refine wl_read rfl rfl rfl (yl_move rfl rfl) ?_
  refine wl_read rfl rfl rfl (yl_move rfl rfl) ?_
  refine wl_read rfl rfl rfl (yl_rem rfl rfl rfl (by omega) rfl) ?_
  refine wl_read rfl rfl rfl (yl_assign rfl rfl) ?_
  refine wl_nil ?_
  refine at_keep (Keep.cons 0 rfl (Keep.cons 1 rfl (Keep.cons 4 rfl (Keep.cons 5 rfl Keep.nil)))) ?_
  refine at_seq ?_
  refine at_seq ?_
  refine at_region ?_
  refine wl_read rfl rfl rfl (yl_move rfl rfl) ?_
  refine wl_split rfl rfl rfl (yp_lss rfl rfl rfl) ?_ ?_
  · intro h2_1
    refine wl_nil ?_
    refine at_keep (Keep.cons 0 rfl (Keep.cons 1 rfl (Keep.cons 4 rfl (Keep.cons 5 rfl (Keep.cons 10 rfl Keep.nil))))) ?_
    refine at_true rfl ?_
    refine at_region ?_
    refine wl_read rfl rfl rfl (yl_move rfl rfl) ?_
    refine wl_read rfl rfl rfl (yl_move rfl rfl) ?_
    refine wl_read rfl rfl rfl (yl_add rfl rfl rfl (w64 (by omega) (by omega))) ?_
    refine wl_read rfl rfl rfl (yl_assign rfl rfl) ?_
    refine wl_nil ?_
    refine at_keep (Keep.cons 0 rfl (Keep.cons 1 rfl (Keep.cons 4 rfl (Keep.cons 5 rfl (Keep.cons 10 rfl Keep.nil))))) ?_
    refine at_seq ?_
    refine at_region ?_
    refine wl_read rfl rfl rfl (yl_move rfl rfl) ?_
    refine wl_read rfl rfl rfl (yl_assign rfl rfl) ?_
    refine wl_nil ?_
    refine at_keep (Keep.cons 0 rfl (Keep.cons 1 rfl (Keep.cons 4 rfl (Keep.cons 5 rfl (Keep.cons 10 rfl Keep.nil))))) ?_
    refine at_ret Try.func19 (res1 rfl rfl) ?_
    exact ⟨by unfold md; rw [if_pos h2_1], rfl⟩
  · intro h2_1
    refine wl_nil ?_
    refine at_keep (Keep.cons 0 rfl (Keep.cons 1 rfl (Keep.cons 4 rfl (Keep.cons 5 rfl (Keep.cons 10 rfl Keep.nil))))) ?_
    refine at_false rfl ?_
    refine at_skip ?_
    refine at_seq ?_
    refine at_region ?_
    refine wl_read rfl rfl rfl (yl_move rfl rfl) ?_
    refine wl_read rfl rfl rfl (yl_assign rfl rfl) ?_
    refine wl_nil ?_
    refine at_keep (Keep.cons 0 rfl (Keep.cons 1 rfl (Keep.cons 4 rfl (Keep.cons 5 rfl (Keep.cons 10 rfl Keep.nil))))) ?_
    refine at_ret Try.func19 (res1 rfl rfl) ?_
    exact ⟨by unfold md; rw [if_neg h2_1], rfl⟩
theorem amount_fn (n : Int) (b : World) (H : List Asr) (hn : I64 n) : Fn Try.prog 24 [.int .i64 n] b H (fun v H' => v = .int .i64 (am n) ∧ H = H') := by
  have hq := tdiv8 n hn
  have hb1 := md_bd (n.tdiv 8) 1000 (by decide)
  refine fn_of_at (by kernel_rfl) Try.func24 rfl Try.ntmps24 rfl rfl ?_
  refine at_seq ?_
  refine at_region ?_
  refine wl_read rfl rfl rfl (yl_assign rfl rfl) ?_
  refine wl_nil ?_
  refine at_keep (Keep.cons 0 rfl (Keep.cons 2 rfl Keep.nil)) ?_
  refine at_seq ?_
  refine at_seq ?_
  refine at_region ?_
  refine wl_read rfl rfl rfl (yl_move rfl rfl) ?_
  refine wl_call rfl rfl rfl (en_call rfl rfl) (mod_fn _ _ _ _ (by decide) (by decide)) ?_
  rintro _ _ ⟨rfl, rfl⟩
  refine wl_nil ?_
  refine at_keep (Keep.cons 0 rfl (Keep.cons 2 rfl (Keep.cons 4 rfl Keep.nil))) ?_
  refine at_block ?_
  refine at_seq ?_
  refine at_region ?_
  refine wl_split rfl rfl rfl (yp_eql rfl rfl rfl) ?_ ?_
  · intro h2_0
    refine wl_read rfl rfl rfl (yl_assign rfl rfl) ?_
    refine wl_nil ?_
    refine at_keep (Keep.cons 0 rfl (Keep.cons 2 rfl (Keep.cons 4 rfl (Keep.cons 5 rfl Keep.nil)))) ?_
    refine at_true rfl ?_
    refine at_seq ?_
    refine at_region ?_
    refine wl_read rfl rfl rfl (yl_assign rfl rfl) ?_
    refine wl_nil ?_
    refine at_keep (Keep.cons 0 rfl (Keep.cons 2 rfl (Keep.cons 4 rfl (Keep.cons 5 rfl Keep.nil)))) ?_
    refine at_ret Try.func24 (res1 rfl rfl) ?_
    exact ⟨by unfold am; rw [if_pos h2_0], rfl⟩
  · intro h2_0
    refine wl_read rfl rfl rfl (yl_assign rfl rfl) ?_
    refine wl_nil ?_
    refine at_keep (Keep.cons 0 rfl (Keep.cons 2 rfl (Keep.cons 4 rfl (Keep.cons 5 rfl Keep.nil)))) ?_
    refine at_false rfl ?_
    refine at_seq ?_
    refine at_region ?_
    refine wl_split rfl rfl rfl (yp_eql rfl rfl rfl) ?_ ?_
    · intro h4_0
      refine wl_read rfl rfl rfl (yl_assign rfl rfl) ?_
      refine wl_nil ?_
      refine at_keep (Keep.cons 0 rfl (Keep.cons 2 rfl (Keep.cons 4 rfl (Keep.cons 5 rfl (Keep.cons 7 rfl Keep.nil))))) ?_
      refine at_true rfl ?_
      refine at_seq ?_
      refine at_region ?_
      refine wl_read rfl rfl rfl (yl_move rfl rfl) ?_
      refine wl_read rfl rfl rfl (yl_quo rfl rfl rfl (by decide) (w64 hq.1 hq.2)) ?_
      refine wl_call rfl rfl rfl (en_call rfl rfl) (mod_fn _ _ _ _ (by decide) (by decide)) ?_
      rintro _ _ ⟨rfl, rfl⟩
      refine wl_read rfl rfl rfl (yl_sub rfl rfl rfl (w64 (by omega) (by omega))) ?_
      refine wl_read rfl rfl rfl (yl_assign rfl rfl) ?_
      refine wl_nil ?_
      refine at_keep (Keep.cons 0 rfl (Keep.cons 2 rfl (Keep.cons 4 rfl (Keep.cons 5 rfl (Keep.cons 7 rfl Keep.nil))))) ?_
      refine at_ret Try.func24 (res1 rfl rfl) ?_
      exact ⟨by unfold am; rw [if_neg h2_0, if_pos h4_0], rfl⟩
    · intro h4_0
      refine wl_read rfl rfl rfl (yl_assign rfl rfl) ?_
      refine wl_nil ?_
      refine at_keep (Keep.cons 0 rfl (Keep.cons 2 rfl (Keep.cons 4 rfl (Keep.cons 5 rfl (Keep.cons 7 rfl Keep.nil))))) ?_
      refine at_false rfl ?_
      refine at_seq ?_
      refine at_region ?_
      refine wl_split rfl rfl rfl (yp_eql rfl rfl rfl) ?_ ?_
      · intro h6_0
        refine wl_read rfl rfl rfl (yl_assign rfl rfl) ?_
        refine wl_nil ?_
        refine at_keep (Keep.cons 0 rfl (Keep.cons 2 rfl (Keep.cons 4 rfl (Keep.cons 5 rfl (Keep.cons 7 rfl (Keep.cons 13 rfl Keep.nil)))))) ?_
        refine at_true rfl ?_
        refine at_seq ?_
        refine at_region ?_
        refine wl_read rfl rfl rfl (yl_move rfl rfl) ?_
        refine wl_read rfl rfl rfl (yl_quo rfl rfl rfl (by decide) (w64 hq.1 hq.2)) ?_
        refine wl_call rfl rfl rfl (en_call rfl rfl) (mod_fn _ _ _ _ (by decide) (by decide)) ?_
        rintro _ _ ⟨rfl, rfl⟩
        refine wl_read rfl rfl rfl (yl_assign rfl rfl) ?_
        refine wl_nil ?_
        refine at_keep (Keep.cons 0 rfl (Keep.cons 2 rfl (Keep.cons 4 rfl (Keep.cons 5 rfl (Keep.cons 7 rfl (Keep.cons 13 rfl Keep.nil)))))) ?_
        refine at_ret Try.func24 (res1 rfl rfl) ?_
        exact ⟨by unfold am; rw [if_neg h2_0, if_neg h4_0, if_pos h6_0], rfl⟩
      · intro h6_0
        refine wl_read rfl rfl rfl (yl_assign rfl rfl) ?_
        refine wl_nil ?_
        refine at_keep (Keep.cons 0 rfl (Keep.cons 2 rfl (Keep.cons 4 rfl (Keep.cons 5 rfl (Keep.cons 7 rfl (Keep.cons 13 rfl Keep.nil)))))) ?_
        refine at_false rfl ?_
        refine at_skip ?_
        refine at_inBlock ?_
        refine at_seq ?_
        refine at_region ?_
        refine wl_read rfl rfl rfl (yl_move rfl rfl) ?_
        refine wl_read rfl rfl rfl (yl_quo rfl rfl rfl (by decide) (w64 hq.1 hq.2)) ?_
        refine wl_call rfl rfl rfl (en_call rfl rfl) (mod_fn _ _ _ _ (by decide) (by decide)) ?_
        rintro _ _ ⟨rfl, rfl⟩
        refine wl_read rfl rfl rfl (yl_assign rfl rfl) ?_
        refine wl_nil ?_
        refine at_keep (Keep.cons 0 rfl (Keep.cons 2 rfl (Keep.cons 4 rfl (Keep.cons 5 rfl (Keep.cons 7 rfl (Keep.cons 13 rfl Keep.nil)))))) ?_
        refine at_ret Try.func24 (res1 rfl rfl) ?_
        exact ⟨by unfold am; rw [if_neg h2_0, if_neg h4_0, if_neg h6_0], rfl⟩
end Go.Proofs.Yteckaphnapljnaa

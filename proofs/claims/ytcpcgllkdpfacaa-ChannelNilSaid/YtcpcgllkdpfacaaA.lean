/- Walks of the helpers, of copies, and of what a channel tells. -/
import Derived.Test.YtcpcgllkdpfacaaM
namespace Go.Proofs.Ytcpcgllkdpfacaa
open Go

theorem info5 : (Try.prog.info? 5).map (fun i => (i.zero, i.size, i.bytes)) = some (some (.int .u8 0), Enc.size UInt8, 1) := by kernel_rfl
theorem info33 : (Try.prog.info? 33).map (fun i => (i.zero, i.size, i.bytes)) = some (some (.agg #[.int .i64 0, .int .i64 0, .slice none 0 0]), Enc.size Msg, 40) := by kernel_rfl

theorem mod_fn (n m : Int) (b : World) (H : List Asr) (hm : 0 < m) (hm2 : m ≤ 4611686018427387904) : Fn Try.prog 12 [.int .i64 n, .int .i64 m] b H (fun v H' => v = .int .i64 (md n m) ∧ H = H') := by
  have hb1 := Int.tmod_lt_of_pos n hm
  have hb2 : -m < n.tmod m := by
    have := Int.tmod_lt_of_pos (-n) hm
    rw [Int.neg_tmod] at this
    omega
  refine fn_of_at (by kernel_rfl) Try.func12 rfl Try.ntmps12 rfl rfl ?_
  refine at_seq ?_
  refine at_region ?_
  refine wl_read rfl rfl rfl (yl_assign rfl rfl) ?_
  refine wl_nil ?_
  refine at_keep (Keep.cons 0 rfl (Keep.cons 1 rfl (Keep.cons 4 rfl Keep.nil))) ?_
  refine at_seq ?_
  refine at_region ?_
  refine wl_read rfl rfl rfl (yl_move rfl rfl) ?_
  refine wl_read rfl rfl rfl (yl_move rfl rfl) ?_
  refine wl_read rfl rfl rfl (yl_rem rfl rfl rfl (by omega) rfl) ?_
  refine wl_read rfl rfl rfl (yl_assign rfl rfl) ?_
  refine wl_nil ?_
  refine at_keep (Keep.cons 0 rfl (Keep.cons 1 rfl (Keep.cons 4 rfl (Keep.cons 5 rfl Keep.nil)))) ?_
  refine at_seq ?_
  refine at_seq ?_
  refine at_region ?_
  refine wl_read rfl rfl rfl (yl_move rfl rfl) ?_
  refine wl_split rfl rfl rfl (yp_lss rfl rfl rfl) ?_ ?_
  · intro h2_1
    refine wl_nil ?_
    refine at_keep (Keep.cons 0 rfl (Keep.cons 1 rfl (Keep.cons 4 rfl (Keep.cons 5 rfl (Keep.cons 10 rfl Keep.nil))))) ?_
    refine at_true rfl ?_
    refine at_region ?_
    refine wl_read rfl rfl rfl (yl_move rfl rfl) ?_
    refine wl_read rfl rfl rfl (yl_move rfl rfl) ?_
    refine wl_read rfl rfl rfl (yl_add rfl rfl rfl (w64 (by omega) (by omega))) ?_
    refine wl_read rfl rfl rfl (yl_assign rfl rfl) ?_
    refine wl_nil ?_
    refine at_keep (Keep.cons 0 rfl (Keep.cons 1 rfl (Keep.cons 4 rfl (Keep.cons 5 rfl (Keep.cons 10 rfl Keep.nil))))) ?_
    refine at_seq ?_
    refine at_region ?_
    refine wl_read rfl rfl rfl (yl_move rfl rfl) ?_
    refine wl_read rfl rfl rfl (yl_assign rfl rfl) ?_
    refine wl_nil ?_
    refine at_keep (Keep.cons 0 rfl (Keep.cons 1 rfl (Keep.cons 4 rfl (Keep.cons 5 rfl (Keep.cons 10 rfl Keep.nil))))) ?_
    refine at_ret Try.func12 (res1 rfl rfl) ?_
    exact ⟨by unfold md; rw [if_pos h2_1], rfl⟩
  · intro h2_1
    refine wl_nil ?_
    refine at_keep (Keep.cons 0 rfl (Keep.cons 1 rfl (Keep.cons 4 rfl (Keep.cons 5 rfl (Keep.cons 10 rfl Keep.nil))))) ?_
    refine at_false rfl ?_
    refine at_skip ?_
    refine at_seq ?_
    refine at_region ?_
    refine wl_read rfl rfl rfl (yl_move rfl rfl) ?_
    refine wl_read rfl rfl rfl (yl_assign rfl rfl) ?_
    refine wl_nil ?_
    refine at_keep (Keep.cons 0 rfl (Keep.cons 1 rfl (Keep.cons 4 rfl (Keep.cons 5 rfl (Keep.cons 10 rfl Keep.nil))))) ?_
    refine at_ret Try.func12 (res1 rfl rfl) ?_
    exact ⟨by unfold md; rw [if_neg h2_1], rfl⟩
theorem isState_fn (n : Int) (b : World) (H : List Asr) : Fn Try.prog 28 [.int .i64 n] b H (fun v H' => v = .bool (decide (0 ≤ n ∧ n < 6)) ∧ H = H') := by
  refine fn_of_at (by kernel_rfl) Try.func28 rfl Try.ntmps28 rfl rfl ?_
  refine at_seq ?_
  refine at_region ?_
  refine wl_read rfl rfl rfl (yl_assign rfl rfl) ?_
  refine wl_nil ?_
  refine at_keep (Keep.cons 0 rfl (Keep.cons 2 rfl Keep.nil)) ?_
  refine at_seq ?_
  refine at_region ?_
  refine wl_read rfl rfl rfl (yl_move rfl rfl) ?_
  refine wl_split rfl rfl rfl (yp_geq rfl rfl rfl) ?_ ?_
  · intro h1_1
    refine wl_read rfl rfl rfl (yl_move rfl rfl) ?_
    refine wl_read rfl rfl rfl (yl_move rfl rfl) ?_
    refine wl_split rfl rfl rfl (yp_lss rfl rfl rfl) ?_ ?_
    · intro h1_4
      refine wl_read rfl rfl rfl (yl_pickT rfl rfl rfl) ?_
      refine wl_read rfl rfl rfl (yl_assign rfl rfl) ?_
      refine wl_nil ?_
      refine at_keep (Keep.cons 0 rfl (Keep.cons 2 rfl Keep.nil)) ?_
      refine at_ret Try.func28 (res1 rfl rfl) ?_
      exact ⟨congrArg Value.bool (decide_eq_true (by omega)).symm, rfl⟩
    · intro h1_4
      refine wl_read rfl rfl rfl (yl_pickT rfl rfl rfl) ?_
      refine wl_read rfl rfl rfl (yl_assign rfl rfl) ?_
      refine wl_nil ?_
      refine at_keep (Keep.cons 0 rfl (Keep.cons 2 rfl Keep.nil)) ?_
      refine at_ret Try.func28 (res1 rfl rfl) ?_
      exact ⟨congrArg Value.bool (decide_eq_false (by omega)).symm, rfl⟩
  · intro h1_1
    refine wl_read rfl rfl rfl (yl_move rfl rfl) ?_
    refine wl_skip rfl rfl rfl ?_
    refine wl_skip rfl rfl rfl ?_
    refine wl_read rfl rfl rfl (yl_pickF rfl rfl rfl) ?_
    refine wl_read rfl rfl rfl (yl_assign rfl rfl) ?_
    refine wl_nil ?_
    refine at_keep (Keep.cons 0 rfl (Keep.cons 2 rfl Keep.nil)) ?_
    refine at_ret Try.func28 (res1 rfl rfl) ?_
    exact ⟨congrArg Value.bool (decide_eq_false (by omega)).symm, rfl⟩
theorem clone_fn (xs : List UInt8) (A : Option Addr) (c : Nat) (b : World) (H : List Asr) (hR : Rd H A xs) (hl : xs.length ≤ 1000000) :
    Fn Try.prog 29 [.slice A xs.length c] b H (fun v H' => ∃ A' c', v = .slice A' xs.length c' ∧ H' = Sl A' c' 5 xs :: H) := by
  refine Fn.know (by kernel_rfl) (p := A = none → xs = []) (fun w hw hA => Classical.byContradiction fun hx => by obtain ⟨ad, e, _⟩ := hR b w hw hx; rw [hA] at e; cases e) (fun hA => ?_)
  cases A with
  | none =>
    obtain rfl := hA rfl
    refine fn_of_at (by kernel_rfl) Try.func29 rfl Try.ntmps29 rfl rfl ?_
    refine at_seq ?_
    refine at_region ?_
    refine wl_read rfl rfl rfl (yl_assign rfl rfl) ?_
    refine wl_nil ?_
    refine at_keep (Keep.cons 0 rfl (Keep.cons 2 rfl Keep.nil)) ?_
    refine at_seq ?_
    refine at_seq ?_
    refine at_region ?_
    refine wl_read rfl rfl rfl (yl_move rfl rfl) ?_
    refine wl_read rfl rfl rfl (yl_eqSlice rfl rfl rfl Try.underlying27 rfl) ?_
    refine wl_nil ?_
    refine at_keep (Keep.cons 0 rfl (Keep.cons 2 rfl (Keep.cons 4 rfl Keep.nil))) ?_
    refine at_true rfl ?_
    refine at_seq ?_
    refine at_region ?_
    refine wl_read rfl rfl rfl (yl_assign rfl rfl) ?_
    refine wl_nil ?_
    refine at_keep (Keep.cons 0 rfl (Keep.cons 2 rfl (Keep.cons 4 rfl Keep.nil))) ?_
    refine at_retH (fun _ hw => hw.nilSl (α := UInt8) 5) Try.func29 (res1 rfl rfl) ?_
    exact ⟨none, 0, rfl, rfl⟩
  | some ad =>
    refine fn_of_at (by kernel_rfl) Try.func29 rfl Try.ntmps29 rfl rfl ?_
    refine at_seq ?_
    refine at_region ?_
    refine wl_read rfl rfl rfl (yl_assign rfl rfl) ?_
    refine wl_nil ?_
    refine at_keep (Keep.cons 0 rfl (Keep.cons 2 rfl Keep.nil)) ?_
    refine at_seq ?_
    refine at_seq ?_
    refine at_region ?_
    refine wl_read rfl rfl rfl (yl_move rfl rfl) ?_
    refine wl_read rfl rfl rfl (yl_eqSlice rfl rfl rfl Try.underlying27 rfl) ?_
    refine wl_nil ?_
    refine at_keep (Keep.cons 0 rfl (Keep.cons 2 rfl (Keep.cons 4 rfl Keep.nil))) ?_
    refine at_false rfl ?_
    refine at_skip ?_
    refine at_seq ?_
    refine at_region ?_
    refine wl_eff rfl rfl rfl (ef_buildSlice (e := 5) ([] : List UInt8) rfl rfl (fun _ => by kernel_rfl) rfl rfl) ?_
    rintro _ _ ⟨T3_0, rfl, rfl⟩
    refine wl_read rfl rfl rfl (yl_move rfl rfl) ?_
    refine wl_eff rfl rfl rfl (ef_append (ys := xs) 0 rfl rfl rfl rfl (hR.cons _) Try.underlying27 info5 rfl rfl (by simp only [List.length_nil, maxLen]; omega) (by simp only [List.length_nil]; omega)) ?_
    rintro _ _ ⟨A2, c2, rfl, hH⟩
    simp only [List.set_cons_succ, List.set_cons_zero] at hH; subst hH
    refine wl_read rfl rfl rfl (yl_assign rfl rfl) ?_
    refine wl_nil ?_
    refine at_keep (Keep.cons 0 rfl (Keep.cons 2 rfl (Keep.cons 4 rfl Keep.nil))) ?_
    refine at_ret Try.func29 (res1 rfl rfl) ?_
    exact ⟨A2, c2, rfl, rfl⟩
theorem cloneM_fn (xs : List Msg) (A : Option Addr) (c : Nat) (b : World) (H : List Asr) (hR : Rd H A xs) (hl : xs.length ≤ 1000) :
    Fn Try.prog 35 [.slice A xs.length c] b H (fun v H' => ∃ A' c', v = .slice A' xs.length c' ∧ H' = Sl A' c' 33 xs :: H) := by
  refine Fn.know (by kernel_rfl) (p := A = none → xs = []) (fun w hw hA => Classical.byContradiction fun hx => by obtain ⟨ad, e, _⟩ := hR b w hw hx; rw [hA] at e; cases e) (fun hA => ?_)
  cases A with
  | none =>
    obtain rfl := hA rfl
    refine fn_of_at (by kernel_rfl) Try.func35 rfl Try.ntmps35 rfl rfl ?_
    refine at_seq ?_
    refine at_region ?_
    refine wl_read rfl rfl rfl (yl_assign rfl rfl) ?_
    refine wl_nil ?_
    refine at_keep (Keep.cons 0 rfl (Keep.cons 2 rfl Keep.nil)) ?_
    refine at_seq ?_
    refine at_seq ?_
    refine at_region ?_
    refine wl_read rfl rfl rfl (yl_move rfl rfl) ?_
    refine wl_read rfl rfl rfl (yl_eqSlice rfl rfl rfl Try.underlying40 rfl) ?_
    refine wl_nil ?_
    refine at_keep (Keep.cons 0 rfl (Keep.cons 2 rfl (Keep.cons 4 rfl Keep.nil))) ?_
    refine at_true rfl ?_
    refine at_seq ?_
    refine at_region ?_
    refine wl_read rfl rfl rfl (yl_assign rfl rfl) ?_
    refine wl_nil ?_
    refine at_keep (Keep.cons 0 rfl (Keep.cons 2 rfl (Keep.cons 4 rfl Keep.nil))) ?_
    refine at_retH (fun _ hw => hw.nilSl (α := Msg) 33) Try.func35 (res1 rfl rfl) ?_
    exact ⟨none, 0, rfl, rfl⟩
  | some ad =>
    refine fn_of_at (by kernel_rfl) Try.func35 rfl Try.ntmps35 rfl rfl ?_
    refine at_seq ?_
    refine at_region ?_
    refine wl_read rfl rfl rfl (yl_assign rfl rfl) ?_
    refine wl_nil ?_
    refine at_keep (Keep.cons 0 rfl (Keep.cons 2 rfl Keep.nil)) ?_
    refine at_seq ?_
    refine at_seq ?_
    refine at_region ?_
    refine wl_read rfl rfl rfl (yl_move rfl rfl) ?_
    refine wl_read rfl rfl rfl (yl_eqSlice rfl rfl rfl Try.underlying40 rfl) ?_
    refine wl_nil ?_
    refine at_keep (Keep.cons 0 rfl (Keep.cons 2 rfl (Keep.cons 4 rfl Keep.nil))) ?_
    refine at_false rfl ?_
    refine at_skip ?_
    refine at_seq ?_
    refine at_region ?_
    refine wl_eff rfl rfl rfl (ef_buildSlice (e := 33) ([] : List Msg) rfl rfl (fun _ => by kernel_rfl) rfl rfl) ?_
    rintro _ _ ⟨T3_0, rfl, rfl⟩
    refine wl_read rfl rfl rfl (yl_move rfl rfl) ?_
    refine wl_eff rfl rfl rfl (ef_append (ys := xs) 0 rfl rfl rfl rfl (hR.cons _) Try.underlying40 info33 rfl rfl (by simp only [List.length_nil, maxLen]; omega) (by simp only [List.length_nil]; omega)) ?_
    rintro _ _ ⟨A2, c2, rfl, hH⟩
    simp only [List.set_cons_succ, List.set_cons_zero] at hH; subst hH
    refine wl_read rfl rfl rfl (yl_assign rfl rfl) ?_
    refine wl_nil ?_
    refine at_keep (Keep.cons 0 rfl (Keep.cons 2 rfl (Keep.cons 4 rfl Keep.nil))) ?_
    refine at_ret Try.func35 (res1 rfl rfl) ?_
    exact ⟨A2, c2, rfl, rfl⟩
theorem new_fn (b : World) (H : List Asr) : Fn Try.prog 11 [] b H (fun v H' => ∃ g, v = .pointer (some ⟨g, 0, none⟩) ∧ H' = Chn 58 g [] ⟨0, 0, 0, 0⟩ :: H) := by
  refine fn_of_at (by kernel_rfl) Try.func11 rfl Try.ntmps11 rfl rfl ?_
  refine at_seq ?_
  refine at_region ?_
  refine wl_read rfl rfl rfl (yl_assign rfl rfl) ?_
  refine wl_nil ?_
  refine at_keep (Keep.cons 0 rfl Keep.nil) ?_
  refine at_seq ?_
  refine at_region ?_
  refine wl_read rfl rfl rfl (yl_build (cs := [.slice none 0 0, .int .i64 0, .int .i64 0, .int .i64 0, .int .i64 0]) rfl rfl (fun _ => by kernel_rfl)) ?_
  refine wl_eff rfl rfl rfl (ef_box rfl rfl rfl) ?_
  rintro _ _ ⟨g1_1, rfl, rfl⟩
  refine wl_read rfl rfl rfl (yl_assign rfl rfl) ?_
  refine wl_nil ?_
  refine at_keep (Keep.cons 0 rfl Keep.nil) ?_
  refine at_retH (fun _ hw => Chn.closes (ms := []) (k := ⟨0, 0, 0, 0⟩) (hw.nilSl (α := Msg) 33).front1) Try.func11 (res1 rfl rfl) ?_
  exact ⟨g1_1, rfl, rfl⟩
theorem len_at (g : Nat) (b : World) (H : List Asr) {A : Option Addr} {n c : Nat} (hB : CellAt H ⟨g, 0, none⟩ (.slice A n c)) : Fn Try.prog 15 [.pointer (some ⟨g, 0, none⟩)] b H (fun v H' => v = .int .i64 n ∧ H = H') := by
  refine fn_of_at (by kernel_rfl) Try.func15 rfl Try.ntmps15 rfl rfl ?_
  refine at_seq ?_
  refine at_region ?_
  refine wl_read rfl rfl rfl (yl_assign rfl rfl) ?_
  refine wl_nil ?_
  refine at_keep (Keep.cons 0 rfl (Keep.cons 2 rfl Keep.nil)) ?_
  refine at_seq ?_
  refine at_seq ?_
  refine at_region ?_
  refine wl_read rfl rfl rfl (yl_move rfl rfl) ?_
  refine wl_read rfl rfl rfl (yl_eqPtr rfl rfl rfl (by kernel_rfl) rfl) ?_
  refine wl_nil ?_
  refine at_keep (Keep.cons 0 rfl (Keep.cons 2 rfl (Keep.cons 4 rfl Keep.nil))) ?_
  refine at_false rfl ?_
  refine at_skip ?_
  refine at_seq ?_
  refine at_region ?_
  refine wl_read rfl rfl rfl (yl_move rfl rfl) ?_
  refine wl_read rfl rfl rfl (yl_nilCheck rfl rfl) ?_
  refine wl_read rfl rfl rfl (yl_fieldB rfl rfl Try.underlying58 rfl (by kernel_rfl) rfl) ?_
  refine wl_read rfl rfl rfl (yl_load rfl rfl Try.underlying40 rfl hB) ?_
  refine wl_read rfl rfl rfl (yl_len rfl rfl Try.underlying40) ?_
  refine wl_read rfl rfl rfl (yl_assign rfl rfl) ?_
  refine wl_nil ?_
  refine at_keep (Keep.cons 0 rfl (Keep.cons 2 rfl (Keep.cons 4 rfl Keep.nil))) ?_
  refine at_ret Try.func15 (res1 rfl rfl) ?_
  exact ⟨rfl, rfl⟩
theorem len_nil (b : World) (H : List Asr) : Fn Try.prog 15 [.pointer none] b H (fun v H' => v = .int .i64 0 ∧ H = H') := by
  refine fn_of_at (by kernel_rfl) Try.func15 rfl Try.ntmps15 rfl rfl ?_
  refine at_seq ?_
  refine at_region ?_
  refine wl_read rfl rfl rfl (yl_assign rfl rfl) ?_
  refine wl_nil ?_
  refine at_keep (Keep.cons 0 rfl (Keep.cons 2 rfl Keep.nil)) ?_
  refine at_seq ?_
  refine at_seq ?_
  refine at_region ?_
  refine wl_read rfl rfl rfl (yl_move rfl rfl) ?_
  refine wl_read rfl rfl rfl (yl_eqPtr rfl rfl rfl (by kernel_rfl) rfl) ?_
  refine wl_nil ?_
  refine at_keep (Keep.cons 0 rfl (Keep.cons 2 rfl (Keep.cons 4 rfl Keep.nil))) ?_
  refine at_true rfl ?_
  refine at_seq ?_
  refine at_region ?_
  refine wl_read rfl rfl rfl (yl_assign rfl rfl) ?_
  refine wl_nil ?_
  refine at_keep (Keep.cons 0 rfl (Keep.cons 2 rfl (Keep.cons 4 rfl Keep.nil))) ?_
  refine at_ret Try.func15 (res1 rfl rfl) ?_
  exact ⟨rfl, rfl⟩
theorem len_fn (ms : List Msg) (k : Cts) (g : Nat) (b : World) (H : List Asr)  : Fn Try.prog 15 [.pointer (some ⟨g, 0, none⟩)] b (Chn 58 g ms k :: H) (fun v H' => v = .int .i64 (ms.length : Nat) ∧ Chn 58 g ms k :: H = H') :=
  Chn.fn fun A c => (len_at g _ _ (CellAt.bk 0 rfl rfl)).heap (by rintro v _ ⟨h1, rfl⟩; exact ⟨_, ⟨h1, rfl⟩, fun _ hw => Chn.closes hw⟩)

theorem counts_fn (ms : List Msg) (k : Cts) (g : Nat) (b : World) (H : List Asr) : Fn Try.prog 20 [.pointer (some ⟨g, 0, none⟩)] b (Chn 58 g ms k :: H) (fun v H' => v = .tuple #[.int .i64 k.sent, .int .i64 k.del, .int .i64 k.lost, .int .i64 k.rep] ∧ Chn 58 g ms k :: H = H') := by
  refine Chn.fn fun A c => ?_
  refine fn_of_at (by kernel_rfl) Try.func20 rfl Try.ntmps20 rfl rfl ?_
  refine at_seq ?_
  refine at_region ?_
  refine wl_read rfl rfl rfl (yl_assign rfl rfl) ?_
  refine wl_read rfl rfl rfl (yl_assign rfl rfl) ?_
  refine wl_read rfl rfl rfl (yl_assign rfl rfl) ?_
  refine wl_read rfl rfl rfl (yl_assign rfl rfl) ?_
  refine wl_nil ?_
  refine at_keep (Keep.cons 0 rfl (Keep.cons 2 rfl (Keep.cons 3 rfl (Keep.cons 4 rfl (Keep.cons 5 rfl Keep.nil))))) ?_
  refine at_seq ?_
  refine at_seq ?_
  refine at_region ?_
  refine wl_read rfl rfl rfl (yl_move rfl rfl) ?_
  refine wl_read rfl rfl rfl (yl_eqPtr rfl rfl rfl (by kernel_rfl) rfl) ?_
  refine wl_nil ?_
  refine at_keep (Keep.cons 0 rfl (Keep.cons 2 rfl (Keep.cons 3 rfl (Keep.cons 4 rfl (Keep.cons 5 rfl (Keep.cons 7 rfl Keep.nil)))))) ?_
  refine at_false rfl ?_
  refine at_skip ?_
  refine at_seq ?_
  refine at_draw0 (.fl 0 (.fl 1 (.fl 2 (.fl 3 (.fl 4 (.fl 5 (.fl 6 (.fl 7 (.fl 8 (.fl 9 (.fl 10 (.fl 11 (.fl 12 (.fl 13 (.fl 14 (.fl 15 (.fl 16 (.fl 17 (.fl 18 (.fl 19 .nil)))))))))))))))))))) (by kernel_rfl) (by kernel_rfl) ?_
  refine wt_read rfl rfl rfl rfl (yl_move rfl rfl) ?_
  refine wt_read rfl rfl rfl rfl (yl_nilCheck rfl rfl) ?_
  refine wt_read rfl rfl rfl rfl (yl_fieldB rfl rfl Try.underlying58 rfl (by kernel_rfl) rfl) ?_
  refine wt_read rfl rfl rfl rfl (yl_load rfl rfl Try.underlying3 rfl (CellAt.bk 0 rfl rfl)) ?_
  refine wt_read rfl rfl rfl rfl (yl_move rfl rfl) ?_
  refine wt_read rfl rfl rfl rfl (yl_nilCheck rfl rfl) ?_
  refine wt_read rfl rfl rfl rfl (yl_fieldB rfl rfl Try.underlying58 rfl (by kernel_rfl) rfl) ?_
  refine wt_read rfl rfl rfl rfl (yl_load rfl rfl Try.underlying3 rfl (CellAt.bk 0 rfl rfl)) ?_
  refine wt_read rfl rfl rfl rfl (yl_move rfl rfl) ?_
  refine wt_read rfl rfl rfl rfl (yl_nilCheck rfl rfl) ?_
  refine wt_read rfl rfl rfl rfl (yl_fieldB rfl rfl Try.underlying58 rfl (by kernel_rfl) rfl) ?_
  refine wt_read rfl rfl rfl rfl (yl_load rfl rfl Try.underlying3 rfl (CellAt.bk 0 rfl rfl)) ?_
  refine wt_read rfl rfl rfl rfl (yl_move rfl rfl) ?_
  refine wt_read rfl rfl rfl rfl (yl_nilCheck rfl rfl) ?_
  refine wt_read rfl rfl rfl rfl (yl_fieldB rfl rfl Try.underlying58 rfl (by kernel_rfl) rfl) ?_
  refine wt_read rfl rfl rfl rfl (yl_load rfl rfl Try.underlying3 rfl (CellAt.bk 0 rfl rfl)) ?_
  refine wt_read rfl rfl rfl rfl (yl_assign rfl rfl) ?_
  refine wt_read rfl rfl rfl rfl (yl_assign rfl rfl) ?_
  refine wt_read rfl rfl rfl rfl (yl_assign rfl rfl) ?_
  refine wt_read rfl rfl rfl rfl (yl_assign rfl rfl) ?_
  refine wt_nil ?_
  refine at_keep (Keep.cons 0 rfl (Keep.cons 2 rfl (Keep.cons 3 rfl (Keep.cons 4 rfl (Keep.cons 5 rfl (Keep.cons 7 rfl Keep.nil)))))) ?_
  refine at_retH (fun _ hw => Chn.closes hw) Try.func20 (res4 rfl rfl rfl rfl rfl) ?_
  exact ⟨rfl, rfl⟩
theorem counts_nil (b : World) (H : List Asr) : Fn Try.prog 20 [.pointer none] b H (fun v H' => v = .tuple #[.int .i64 0, .int .i64 0, .int .i64 0, .int .i64 0] ∧ H = H') := by
  refine fn_of_at (by kernel_rfl) Try.func20 rfl Try.ntmps20 rfl rfl ?_
  refine at_seq ?_
  refine at_region ?_
  refine wl_read rfl rfl rfl (yl_assign rfl rfl) ?_
  refine wl_read rfl rfl rfl (yl_assign rfl rfl) ?_
  refine wl_read rfl rfl rfl (yl_assign rfl rfl) ?_
  refine wl_read rfl rfl rfl (yl_assign rfl rfl) ?_
  refine wl_nil ?_
  refine at_keep (Keep.cons 0 rfl (Keep.cons 2 rfl (Keep.cons 3 rfl (Keep.cons 4 rfl (Keep.cons 5 rfl Keep.nil))))) ?_
  refine at_seq ?_
  refine at_seq ?_
  refine at_region ?_
  refine wl_read rfl rfl rfl (yl_move rfl rfl) ?_
  refine wl_read rfl rfl rfl (yl_eqPtr rfl rfl rfl (by kernel_rfl) rfl) ?_
  refine wl_nil ?_
  refine at_keep (Keep.cons 0 rfl (Keep.cons 2 rfl (Keep.cons 3 rfl (Keep.cons 4 rfl (Keep.cons 5 rfl (Keep.cons 7 rfl Keep.nil)))))) ?_
  refine at_true rfl ?_
  refine at_seq ?_
  refine at_region ?_
  refine wl_read rfl rfl rfl (yl_assign rfl rfl) ?_
  refine wl_read rfl rfl rfl (yl_assign rfl rfl) ?_
  refine wl_read rfl rfl rfl (yl_assign rfl rfl) ?_
  refine wl_read rfl rfl rfl (yl_assign rfl rfl) ?_
  refine wl_nil ?_
  refine at_keep (Keep.cons 0 rfl (Keep.cons 2 rfl (Keep.cons 3 rfl (Keep.cons 4 rfl (Keep.cons 5 rfl (Keep.cons 7 rfl Keep.nil)))))) ?_
  refine at_ret Try.func20 (res4 rfl rfl rfl rfl rfl) ?_
  exact ⟨rfl, rfl⟩
theorem at_at (ms : List Msg) (g j : Nat) (b : World) (H : List Asr) {A : Option Addr} {c : Nat} (hB : CellAt H ⟨g, 0, none⟩ (.slice A ms.length c)) (hR : Rd H A ms) (hok : Ok H ms) (hj : j < ms.length) : Fn Try.prog 22 [.pointer (some ⟨g, 0, none⟩), .int .i64 (j : Int)] b H
    (fun v H' => ∃ A' c', v = .tuple #[.agg (Enc.cells ((at_ ms j).cp A' c')).toArray, .bool true] ∧ H' = Sl A' c' 5 (at_ ms j).bs :: H) := by
  have hsz := hok.sz _ (at_in hj)
  have hl := hok.len
  refine fn_of_at (by kernel_rfl) Try.func22 rfl Try.ntmps22 rfl rfl ?_
  refine at_seq ?_
  refine at_region ?_
  refine wl_eff rfl rfl rfl (ef_alloc (cs := [.int .i64 0, .int .i64 0, .slice none 0 0]) (z := .agg #[.int .i64 0, .int .i64 0, .slice none 0 0]) rfl (by kernel_rfl) rfl) ?_
  rintro _ _ ⟨g0, rfl, rfl⟩
  refine wl_read rfl rfl rfl (yl_assign rfl rfl) ?_
  refine wl_nil ?_
  refine at_keep (Keep.cons 0 rfl (Keep.cons 1 rfl (Keep.cons 4 rfl (Keep.cons 5 rfl Keep.nil)))) ?_
  refine at_seq ?_
  refine at_seq ?_
  refine at_region ?_
  refine wl_read rfl rfl rfl (yl_move rfl rfl) ?_
  refine wl_read rfl rfl rfl ((yp_lss rfl rfl rfl).2 (by omega)) ?_
  refine wl_read rfl rfl rfl (yl_move rfl rfl) ?_
  refine wl_read rfl rfl rfl (yl_move rfl rfl) ?_
  refine wl_read rfl rfl rfl (yl_move rfl rfl) ?_
  refine wl_call rfl rfl rfl (en_call rfl rfl) (len_at g _ _ (hB.cons _)) ?_
  rintro _ _ ⟨rfl, rfl⟩
  refine wl_read rfl rfl rfl ((yp_geq rfl rfl rfl).2 (by omega)) ?_
  refine wl_read rfl rfl rfl (yl_pickF rfl rfl rfl) ?_
  refine wl_nil ?_
  refine at_keep (Keep.cons 0 rfl (Keep.cons 1 rfl (Keep.cons 4 rfl (Keep.cons 5 rfl (Keep.cons 14 rfl Keep.nil))))) ?_
  refine at_false rfl ?_
  refine at_skip ?_
  refine at_seq ?_
  refine at_region ?_
  refine wl_read rfl rfl rfl (yl_move rfl rfl) ?_
  refine wl_read rfl rfl rfl (yl_nilCheck rfl rfl) ?_
  refine wl_read rfl rfl rfl (yl_fieldB rfl rfl Try.underlying58 rfl (by kernel_rfl) rfl) ?_
  refine wl_read rfl rfl rfl (yl_load rfl rfl Try.underlying40 rfl (hB.cons _)) ?_
  refine wl_read rfl rfl rfl (yl_move rfl rfl) ?_
  refine wl_read rfl rfl rfl (yl_index rfl rfl rfl (hR.cons _) (at_some hj) rfl rfl Try.underlying40 (by kernel_rfl) rfl) ?_
  refine wl_read rfl rfl rfl (yl_loadRow rfl rfl (hR.cons _) (at_some hj) Try.underlying33 rfl (by kernel_rfl) rfl) ?_
  refine wl_eff rfl rfl rfl (ef_alloc (cs := [.int .i64 0, .int .i64 0, .slice none 0 0]) (z := .agg #[.int .i64 0, .int .i64 0, .slice none 0 0]) rfl (by kernel_rfl) rfl) ?_
  rintro _ _ ⟨g3, rfl, rfl⟩
  refine wl_store rfl rfl (es_at0 (es_storeN 0 rfl rfl rfl rfl (by kernel_rfl) rfl rfl)) ?_
  refine wl_nil ?_
  refine at_keep (Keep.cons 0 rfl (Keep.cons 1 rfl (Keep.cons 4 rfl (Keep.cons 5 rfl (Keep.cons 6 rfl (Keep.cons 14 rfl Keep.nil)))))) ?_
  refine at_seq ?_
  refine at_region ?_
  refine wl_read rfl rfl rfl (yl_fieldB rfl rfl Try.underlying33 rfl (by kernel_rfl) rfl) ?_
  refine wl_read rfl rfl rfl (yl_load rfl rfl Try.underlying27 rfl (CellAt.bk 0 rfl rfl)) ?_
  refine wl_call rfl rfl rfl (en_call rfl rfl) (clone_fn (at_ ms j).bs _ _ _ _ (((hok.rd _ (at_in hj)).cons _).cons _) (by omega)) ?_
  rintro _ _ ⟨A1, c1, rfl, rfl⟩
  refine wl_read rfl rfl rfl (yl_fieldB rfl rfl Try.underlying33 rfl (by kernel_rfl) rfl) ?_
  refine wl_store rfl rfl (es_at1 (es_store 1 rfl rfl rfl rfl (by kernel_rfl) rfl rfl)) ?_
  refine wl_nil ?_
  refine at_keep (Keep.cons 0 rfl (Keep.cons 1 rfl (Keep.cons 4 rfl (Keep.cons 5 rfl (Keep.cons 6 rfl (Keep.cons 14 rfl Keep.nil)))))) ?_
  refine at_seq ?_
  refine at_region ?_
  refine wl_read rfl rfl rfl (yl_loadBk 1 rfl rfl rfl Try.underlying33 rfl (by kernel_rfl)) ?_
  refine wl_store rfl rfl (es_at2 (es_storeN 2 rfl rfl rfl rfl (by kernel_rfl) rfl rfl)) ?_
  refine wl_read rfl rfl rfl (yl_assign rfl rfl) ?_
  refine wl_nil ?_
  refine at_keep (Keep.cons 0 rfl (Keep.cons 1 rfl (Keep.cons 4 rfl (Keep.cons 5 rfl (Keep.cons 6 rfl (Keep.cons 14 rfl Keep.nil)))))) ?_
  refine at_retH (fun _ hw => hw.drop1.drop1) Try.func22 (resC1 2 rfl rfl rfl Try.underlying33 rfl (by kernel_rfl) rfl) ?_
  exact ⟨A1, c1, rfl, rfl⟩
theorem at_out (g : Nat) (b : World) (H : List Asr) (i : Int) {A : Option Addr} {n c : Nat} (hB : CellAt H ⟨g, 0, none⟩ (.slice A n c)) (hi : ¬ (0 ≤ i ∧ i < n)) : Fn Try.prog 22 [.pointer (some ⟨g, 0, none⟩), .int .i64 i] b H
    (fun v H' => v = .tuple #[.agg (Enc.cells Msg.zero).toArray, .bool false] ∧ H = H') := by
  rcases Classical.em (i < 0) with h0 | h0
  ·
    refine fn_of_at (by kernel_rfl) Try.func22 rfl Try.ntmps22 rfl rfl ?_
    refine at_seq ?_
    refine at_region ?_
    refine wl_eff rfl rfl rfl (ef_alloc (cs := [.int .i64 0, .int .i64 0, .slice none 0 0]) (z := .agg #[.int .i64 0, .int .i64 0, .slice none 0 0]) rfl (by kernel_rfl) rfl) ?_
    rintro _ _ ⟨g0, rfl, rfl⟩
    refine wl_read rfl rfl rfl (yl_assign rfl rfl) ?_
    refine wl_nil ?_
    refine at_keep (Keep.cons 0 rfl (Keep.cons 1 rfl (Keep.cons 4 rfl (Keep.cons 5 rfl Keep.nil)))) ?_
    refine at_seq ?_
    refine at_seq ?_
    refine at_region ?_
    refine wl_read rfl rfl rfl (yl_move rfl rfl) ?_
    refine wl_read rfl rfl rfl ((yp_lss rfl rfl rfl).1 h0) ?_
    refine wl_read rfl rfl rfl (yl_move rfl rfl) ?_
    refine wl_skip rfl rfl rfl ?_
    refine wl_skip rfl rfl rfl ?_
    refine wl_skip rfl rfl rfl ?_
    refine wl_skip rfl rfl rfl ?_
    refine wl_read rfl rfl rfl (yl_pickT rfl rfl rfl) ?_
    refine wl_nil ?_
    refine at_keep (Keep.cons 0 rfl (Keep.cons 1 rfl (Keep.cons 4 rfl (Keep.cons 5 rfl (Keep.cons 14 rfl Keep.nil))))) ?_
    refine at_true rfl ?_
    refine at_seq ?_
    refine at_region ?_
    refine wl_read rfl rfl rfl (yl_build (cs := Enc.cells Msg.zero) rfl rfl (fun _ => by kernel_rfl)) ?_
    refine wl_store rfl rfl (es_at0 (es_storeN 0 rfl rfl rfl rfl (by kernel_rfl) rfl rfl)) ?_
    refine wl_read rfl rfl rfl (yl_assign rfl rfl) ?_
    refine wl_nil ?_
    refine at_keep (Keep.cons 0 rfl (Keep.cons 1 rfl (Keep.cons 4 rfl (Keep.cons 5 rfl (Keep.cons 14 rfl Keep.nil))))) ?_
    refine at_retH (fun _ hw => hw.tail) Try.func22 (resC1 0 rfl rfl rfl Try.underlying33 rfl (by kernel_rfl) rfl) ?_
    exact ⟨rfl, rfl⟩
  ·
    refine fn_of_at (by kernel_rfl) Try.func22 rfl Try.ntmps22 rfl rfl ?_
    refine at_seq ?_
    refine at_region ?_
    refine wl_eff rfl rfl rfl (ef_alloc (cs := [.int .i64 0, .int .i64 0, .slice none 0 0]) (z := .agg #[.int .i64 0, .int .i64 0, .slice none 0 0]) rfl (by kernel_rfl) rfl) ?_
    rintro _ _ ⟨g0, rfl, rfl⟩
    refine wl_read rfl rfl rfl (yl_assign rfl rfl) ?_
    refine wl_nil ?_
    refine at_keep (Keep.cons 0 rfl (Keep.cons 1 rfl (Keep.cons 4 rfl (Keep.cons 5 rfl Keep.nil)))) ?_
    refine at_seq ?_
    refine at_seq ?_
    refine at_region ?_
    refine wl_read rfl rfl rfl (yl_move rfl rfl) ?_
    refine wl_read rfl rfl rfl ((yp_lss rfl rfl rfl).2 h0) ?_
    refine wl_read rfl rfl rfl (yl_move rfl rfl) ?_
    refine wl_read rfl rfl rfl (yl_move rfl rfl) ?_
    refine wl_read rfl rfl rfl (yl_move rfl rfl) ?_
    refine wl_call rfl rfl rfl (en_call rfl rfl) (len_at g _ _ (hB.cons _)) ?_
    rintro _ _ ⟨rfl, rfl⟩
    refine wl_read rfl rfl rfl ((yp_geq rfl rfl rfl).1 (by omega)) ?_
    refine wl_read rfl rfl rfl (yl_pickF rfl rfl rfl) ?_
    refine wl_nil ?_
    refine at_keep (Keep.cons 0 rfl (Keep.cons 1 rfl (Keep.cons 4 rfl (Keep.cons 5 rfl (Keep.cons 14 rfl Keep.nil))))) ?_
    refine at_true rfl ?_
    refine at_seq ?_
    refine at_region ?_
    refine wl_read rfl rfl rfl (yl_build (cs := Enc.cells Msg.zero) rfl rfl (fun _ => by kernel_rfl)) ?_
    refine wl_store rfl rfl (es_at0 (es_storeN 0 rfl rfl rfl rfl (by kernel_rfl) rfl rfl)) ?_
    refine wl_read rfl rfl rfl (yl_assign rfl rfl) ?_
    refine wl_nil ?_
    refine at_keep (Keep.cons 0 rfl (Keep.cons 1 rfl (Keep.cons 4 rfl (Keep.cons 5 rfl (Keep.cons 14 rfl Keep.nil))))) ?_
    refine at_retH (fun _ hw => hw.tail) Try.func22 (resC1 0 rfl rfl rfl Try.underlying33 rfl (by kernel_rfl) rfl) ?_
    exact ⟨rfl, rfl⟩
theorem at_nil (g : Nat) (b : World) (H : List Asr) (i : Int) : Fn Try.prog 22 [.pointer none, .int .i64 i] b H
    (fun v H' => v = .tuple #[.agg (Enc.cells Msg.zero).toArray, .bool false] ∧ H = H') := by
  rcases Classical.em (i < 0) with h0 | h0
  ·
    refine fn_of_at (by kernel_rfl) Try.func22 rfl Try.ntmps22 rfl rfl ?_
    refine at_seq ?_
    refine at_region ?_
    refine wl_eff rfl rfl rfl (ef_alloc (cs := [.int .i64 0, .int .i64 0, .slice none 0 0]) (z := .agg #[.int .i64 0, .int .i64 0, .slice none 0 0]) rfl (by kernel_rfl) rfl) ?_
    rintro _ _ ⟨g0, rfl, rfl⟩
    refine wl_read rfl rfl rfl (yl_assign rfl rfl) ?_
    refine wl_nil ?_
    refine at_keep (Keep.cons 0 rfl (Keep.cons 1 rfl (Keep.cons 4 rfl (Keep.cons 5 rfl Keep.nil)))) ?_
    refine at_seq ?_
    refine at_seq ?_
    refine at_region ?_
    refine wl_read rfl rfl rfl (yl_move rfl rfl) ?_
    refine wl_read rfl rfl rfl ((yp_lss rfl rfl rfl).1 h0) ?_
    refine wl_read rfl rfl rfl (yl_move rfl rfl) ?_
    refine wl_skip rfl rfl rfl ?_
    refine wl_skip rfl rfl rfl ?_
    refine wl_skip rfl rfl rfl ?_
    refine wl_skip rfl rfl rfl ?_
    refine wl_read rfl rfl rfl (yl_pickT rfl rfl rfl) ?_
    refine wl_nil ?_
    refine at_keep (Keep.cons 0 rfl (Keep.cons 1 rfl (Keep.cons 4 rfl (Keep.cons 5 rfl (Keep.cons 14 rfl Keep.nil))))) ?_
    refine at_true rfl ?_
    refine at_seq ?_
    refine at_region ?_
    refine wl_read rfl rfl rfl (yl_build (cs := Enc.cells Msg.zero) rfl rfl (fun _ => by kernel_rfl)) ?_
    refine wl_store rfl rfl (es_at0 (es_storeN 0 rfl rfl rfl rfl (by kernel_rfl) rfl rfl)) ?_
    refine wl_read rfl rfl rfl (yl_assign rfl rfl) ?_
    refine wl_nil ?_
    refine at_keep (Keep.cons 0 rfl (Keep.cons 1 rfl (Keep.cons 4 rfl (Keep.cons 5 rfl (Keep.cons 14 rfl Keep.nil))))) ?_
    refine at_retH (fun _ hw => hw.tail) Try.func22 (resC1 0 rfl rfl rfl Try.underlying33 rfl (by kernel_rfl) rfl) ?_
    exact ⟨rfl, rfl⟩
  ·
    refine fn_of_at (by kernel_rfl) Try.func22 rfl Try.ntmps22 rfl rfl ?_
    refine at_seq ?_
    refine at_region ?_
    refine wl_eff rfl rfl rfl (ef_alloc (cs := [.int .i64 0, .int .i64 0, .slice none 0 0]) (z := .agg #[.int .i64 0, .int .i64 0, .slice none 0 0]) rfl (by kernel_rfl) rfl) ?_
    rintro _ _ ⟨g0, rfl, rfl⟩
    refine wl_read rfl rfl rfl (yl_assign rfl rfl) ?_
    refine wl_nil ?_
    refine at_keep (Keep.cons 0 rfl (Keep.cons 1 rfl (Keep.cons 4 rfl (Keep.cons 5 rfl Keep.nil)))) ?_
    refine at_seq ?_
    refine at_seq ?_
    refine at_region ?_
    refine wl_read rfl rfl rfl (yl_move rfl rfl) ?_
    refine wl_read rfl rfl rfl ((yp_lss rfl rfl rfl).2 h0) ?_
    refine wl_read rfl rfl rfl (yl_move rfl rfl) ?_
    refine wl_read rfl rfl rfl (yl_move rfl rfl) ?_
    refine wl_read rfl rfl rfl (yl_move rfl rfl) ?_
    refine wl_call rfl rfl rfl (en_call rfl rfl) (len_nil _ _) ?_
    rintro _ _ ⟨rfl, rfl⟩
    refine wl_read rfl rfl rfl ((yp_geq rfl rfl rfl).1 (by omega)) ?_
    refine wl_read rfl rfl rfl (yl_pickF rfl rfl rfl) ?_
    refine wl_nil ?_
    refine at_keep (Keep.cons 0 rfl (Keep.cons 1 rfl (Keep.cons 4 rfl (Keep.cons 5 rfl (Keep.cons 14 rfl Keep.nil))))) ?_
    refine at_true rfl ?_
    refine at_seq ?_
    refine at_region ?_
    refine wl_read rfl rfl rfl (yl_build (cs := Enc.cells Msg.zero) rfl rfl (fun _ => by kernel_rfl)) ?_
    refine wl_store rfl rfl (es_at0 (es_storeN 0 rfl rfl rfl rfl (by kernel_rfl) rfl rfl)) ?_
    refine wl_read rfl rfl rfl (yl_assign rfl rfl) ?_
    refine wl_nil ?_
    refine at_keep (Keep.cons 0 rfl (Keep.cons 1 rfl (Keep.cons 4 rfl (Keep.cons 5 rfl (Keep.cons 14 rfl Keep.nil))))) ?_
    refine at_retH (fun _ hw => hw.tail) Try.func22 (resC1 0 rfl rfl rfl Try.underlying33 rfl (by kernel_rfl) rfl) ?_
    exact ⟨rfl, rfl⟩
theorem copied_fn (m : Msg) (b : World) (H : List Asr) (hR : Rd H m.A m.bs) (hl : m.bs.length ≤ 1000000) : Fn Try.prog 36 [.agg (Enc.cells m).toArray] b H (fun v H' => ∃ A' c', v = .agg (Enc.cells (m.cp A' c')).toArray ∧ H' = Sl A' c' 5 m.bs :: H) := by
  refine fn_of_at (by kernel_rfl) Try.func36 rfl Try.ntmps36 rfl rfl ?_
  refine at_seq ?_
  refine at_region ?_
  refine wl_eff rfl rfl rfl (ef_box rfl rfl rfl) ?_
  rintro _ _ ⟨g1, rfl, rfl⟩
  refine wl_eff rfl rfl rfl (ef_alloc (cs := [.int .i64 0, .int .i64 0, .slice none 0 0]) (z := .agg #[.int .i64 0, .int .i64 0, .slice none 0 0]) rfl (by kernel_rfl) rfl) ?_
  rintro _ _ ⟨g2, rfl, rfl⟩
  refine wl_nil ?_
  refine at_keep (Keep.cons 0 rfl (Keep.cons 1 rfl (Keep.cons 2 rfl Keep.nil))) ?_
  refine at_seq ?_
  refine at_region ?_
  refine wl_read rfl rfl rfl (yl_fieldB rfl rfl Try.underlying33 rfl (by kernel_rfl) rfl) ?_
  refine wl_read rfl rfl rfl (yl_load rfl rfl Try.underlying27 rfl (CellAt.bk 1 rfl rfl)) ?_
  refine wl_eff rfl rfl rfl (ef_append0 (ys := m.bs) rfl rfl rfl ((hR.cons _).cons _) Try.underlying27 info5 rfl rfl (by simp only [maxLen]; omega) (by omega)) ?_
  rintro _ _ ⟨A1, c1, rfl, rfl⟩
  refine wl_read rfl rfl rfl (yl_fieldB rfl rfl Try.underlying33 rfl (by kernel_rfl) rfl) ?_
  refine wl_store rfl rfl (es_at2 (es_store 2 rfl rfl rfl rfl (by kernel_rfl) rfl rfl)) ?_
  refine wl_nil ?_
  refine at_keep (Keep.cons 0 rfl (Keep.cons 1 rfl (Keep.cons 2 rfl Keep.nil))) ?_
  refine at_seq ?_
  refine at_region ?_
  refine wl_read rfl rfl rfl (yl_loadBk 2 rfl rfl rfl Try.underlying33 rfl (by kernel_rfl)) ?_
  refine wl_store rfl rfl (es_at1 (es_storeN 1 rfl rfl rfl rfl (by kernel_rfl) rfl rfl)) ?_
  refine wl_nil ?_
  refine at_keep (Keep.cons 0 rfl (Keep.cons 1 rfl (Keep.cons 2 rfl Keep.nil))) ?_
  refine at_retH (fun _ hw => hw.drop1.drop1) Try.func36 (resC 1 rfl rfl rfl Try.underlying33 rfl (by kernel_rfl)) ?_
  exact ⟨A1, c1, rfl, rfl⟩
theorem rat_at (ms : List Msg) (g j : Nat) (b : World) (H : List Asr) {A : Option Addr} {c : Nat} (hB : CellAt H ⟨g, 0, none⟩ (.slice A ms.length c)) (hR : Rd H A ms) (hok : Ok H ms) (hj : j < ms.length) : Fn Try.prog 34 [.pointer (some ⟨g, 0, none⟩), .int .i64 (j : Int)] b H
    (fun v H' => ∃ A' c', v = .tuple #[.agg (Enc.cells ((at_ ms j).cp A' c')).toArray, .bool true] ∧ H' = Sl A' c' 5 (at_ ms j).bs :: H) := by
  have hsz := hok.sz _ (at_in hj)
  have hl := hok.len
  refine fn_of_at (by kernel_rfl) Try.func34 rfl Try.ntmps34 rfl rfl ?_
  refine at_seq ?_
  refine at_region ?_
  refine wl_eff rfl rfl rfl (ef_alloc (cs := [.int .i64 0, .int .i64 0, .slice none 0 0]) (z := .agg #[.int .i64 0, .int .i64 0, .slice none 0 0]) rfl (by kernel_rfl) rfl) ?_
  rintro _ _ ⟨g0, rfl, rfl⟩
  refine wl_read rfl rfl rfl (yl_assign rfl rfl) ?_
  refine wl_nil ?_
  refine at_keep (Keep.cons 0 rfl (Keep.cons 1 rfl (Keep.cons 4 rfl (Keep.cons 5 rfl Keep.nil)))) ?_
  refine at_seq ?_
  refine at_seq ?_
  refine at_region ?_
  refine wl_read rfl rfl rfl (yl_move rfl rfl) ?_
  refine wl_read rfl rfl rfl ((yp_lss rfl rfl rfl).2 (by omega)) ?_
  refine wl_read rfl rfl rfl (yl_move rfl rfl) ?_
  refine wl_read rfl rfl rfl (yl_move rfl rfl) ?_
  refine wl_read rfl rfl rfl (yl_move rfl rfl) ?_
  refine wl_read rfl rfl rfl (yl_nilCheck rfl rfl) ?_
  refine wl_read rfl rfl rfl (yl_fieldB rfl rfl Try.underlying42 rfl (by kernel_rfl) rfl) ?_
  refine wl_read rfl rfl rfl (yl_load rfl rfl Try.underlying40 rfl (hB.cons _)) ?_
  refine wl_read rfl rfl rfl (yl_len rfl rfl Try.underlying40) ?_
  refine wl_read rfl rfl rfl ((yp_geq rfl rfl rfl).2 (by omega)) ?_
  refine wl_read rfl rfl rfl (yl_pickF rfl rfl rfl) ?_
  refine wl_nil ?_
  refine at_keep (Keep.cons 0 rfl (Keep.cons 1 rfl (Keep.cons 4 rfl (Keep.cons 5 rfl (Keep.cons 16 rfl Keep.nil))))) ?_
  refine at_false rfl ?_
  refine at_skip ?_
  refine at_seq ?_
  refine at_region ?_
  refine wl_read rfl rfl rfl (yl_move rfl rfl) ?_
  refine wl_read rfl rfl rfl (yl_nilCheck rfl rfl) ?_
  refine wl_read rfl rfl rfl (yl_fieldB rfl rfl Try.underlying42 rfl (by kernel_rfl) rfl) ?_
  refine wl_read rfl rfl rfl (yl_load rfl rfl Try.underlying40 rfl (hB.cons _)) ?_
  refine wl_read rfl rfl rfl (yl_move rfl rfl) ?_
  refine wl_read rfl rfl rfl (yl_index rfl rfl rfl (hR.cons _) (at_some hj) rfl rfl Try.underlying40 (by kernel_rfl) rfl) ?_
  refine wl_read rfl rfl rfl (yl_loadRow rfl rfl (hR.cons _) (at_some hj) Try.underlying33 rfl (by kernel_rfl) rfl) ?_
  refine wl_call rfl rfl rfl (en_call rfl rfl) (copied_fn (at_ ms j) _ _ ((hok.rd _ (at_in hj)).cons _) (by omega)) ?_
  rintro _ _ ⟨A1, c1, rfl, rfl⟩
  refine wl_store rfl rfl (es_at1 (es_storeN 1 rfl rfl rfl rfl (by kernel_rfl) rfl rfl)) ?_
  refine wl_read rfl rfl rfl (yl_assign rfl rfl) ?_
  refine wl_nil ?_
  refine at_keep (Keep.cons 0 rfl (Keep.cons 1 rfl (Keep.cons 4 rfl (Keep.cons 5 rfl (Keep.cons 16 rfl Keep.nil))))) ?_
  refine at_retH (fun _ hw => hw.drop1) Try.func34 (resC1 1 rfl rfl rfl Try.underlying33 rfl (by kernel_rfl) rfl) ?_
  exact ⟨A1, c1, rfl, rfl⟩
theorem rat_out (g : Nat) (b : World) (H : List Asr) (i : Int) {A : Option Addr} {n c : Nat} (hB : CellAt H ⟨g, 0, none⟩ (.slice A n c)) (hi : ¬ (0 ≤ i ∧ i < n)) : Fn Try.prog 34 [.pointer (some ⟨g, 0, none⟩), .int .i64 i] b H
    (fun v H' => v = .tuple #[.agg (Enc.cells Msg.zero).toArray, .bool false] ∧ H = H') := by
  rcases Classical.em (i < 0) with h0 | h0
  ·
    refine fn_of_at (by kernel_rfl) Try.func34 rfl Try.ntmps34 rfl rfl ?_
    refine at_seq ?_
    refine at_region ?_
    refine wl_eff rfl rfl rfl (ef_alloc (cs := [.int .i64 0, .int .i64 0, .slice none 0 0]) (z := .agg #[.int .i64 0, .int .i64 0, .slice none 0 0]) rfl (by kernel_rfl) rfl) ?_
    rintro _ _ ⟨g0, rfl, rfl⟩
    refine wl_read rfl rfl rfl (yl_assign rfl rfl) ?_
    refine wl_nil ?_
    refine at_keep (Keep.cons 0 rfl (Keep.cons 1 rfl (Keep.cons 4 rfl (Keep.cons 5 rfl Keep.nil)))) ?_
    refine at_seq ?_
    refine at_seq ?_
    refine at_region ?_
    refine wl_read rfl rfl rfl (yl_move rfl rfl) ?_
    refine wl_read rfl rfl rfl ((yp_lss rfl rfl rfl).1 h0) ?_
    refine wl_read rfl rfl rfl (yl_move rfl rfl) ?_
    refine wl_skip rfl rfl rfl ?_
    refine wl_skip rfl rfl rfl ?_
    refine wl_skip rfl rfl rfl ?_
    refine wl_skip rfl rfl rfl ?_
    refine wl_skip rfl rfl rfl ?_
    refine wl_skip rfl rfl rfl ?_
    refine wl_skip rfl rfl rfl ?_
    refine wl_read rfl rfl rfl (yl_pickT rfl rfl rfl) ?_
    refine wl_nil ?_
    refine at_keep (Keep.cons 0 rfl (Keep.cons 1 rfl (Keep.cons 4 rfl (Keep.cons 5 rfl (Keep.cons 16 rfl Keep.nil))))) ?_
    refine at_true rfl ?_
    refine at_seq ?_
    refine at_region ?_
    refine wl_read rfl rfl rfl (yl_build (cs := Enc.cells Msg.zero) rfl rfl (fun _ => by kernel_rfl)) ?_
    refine wl_store rfl rfl (es_at0 (es_storeN 0 rfl rfl rfl rfl (by kernel_rfl) rfl rfl)) ?_
    refine wl_read rfl rfl rfl (yl_assign rfl rfl) ?_
    refine wl_nil ?_
    refine at_keep (Keep.cons 0 rfl (Keep.cons 1 rfl (Keep.cons 4 rfl (Keep.cons 5 rfl (Keep.cons 16 rfl Keep.nil))))) ?_
    refine at_retH (fun _ hw => hw.tail) Try.func34 (resC1 0 rfl rfl rfl Try.underlying33 rfl (by kernel_rfl) rfl) ?_
    exact ⟨rfl, rfl⟩
  ·
    refine fn_of_at (by kernel_rfl) Try.func34 rfl Try.ntmps34 rfl rfl ?_
    refine at_seq ?_
    refine at_region ?_
    refine wl_eff rfl rfl rfl (ef_alloc (cs := [.int .i64 0, .int .i64 0, .slice none 0 0]) (z := .agg #[.int .i64 0, .int .i64 0, .slice none 0 0]) rfl (by kernel_rfl) rfl) ?_
    rintro _ _ ⟨g0, rfl, rfl⟩
    refine wl_read rfl rfl rfl (yl_assign rfl rfl) ?_
    refine wl_nil ?_
    refine at_keep (Keep.cons 0 rfl (Keep.cons 1 rfl (Keep.cons 4 rfl (Keep.cons 5 rfl Keep.nil)))) ?_
    refine at_seq ?_
    refine at_seq ?_
    refine at_region ?_
    refine wl_read rfl rfl rfl (yl_move rfl rfl) ?_
    refine wl_read rfl rfl rfl ((yp_lss rfl rfl rfl).2 h0) ?_
    refine wl_read rfl rfl rfl (yl_move rfl rfl) ?_
    refine wl_read rfl rfl rfl (yl_move rfl rfl) ?_
    refine wl_read rfl rfl rfl (yl_move rfl rfl) ?_
    refine wl_read rfl rfl rfl (yl_nilCheck rfl rfl) ?_
    refine wl_read rfl rfl rfl (yl_fieldB rfl rfl Try.underlying42 rfl (by kernel_rfl) rfl) ?_
    refine wl_read rfl rfl rfl (yl_load rfl rfl Try.underlying40 rfl (hB.cons _)) ?_
    refine wl_read rfl rfl rfl (yl_len rfl rfl Try.underlying40) ?_
    refine wl_read rfl rfl rfl ((yp_geq rfl rfl rfl).1 (by omega)) ?_
    refine wl_read rfl rfl rfl (yl_pickF rfl rfl rfl) ?_
    refine wl_nil ?_
    refine at_keep (Keep.cons 0 rfl (Keep.cons 1 rfl (Keep.cons 4 rfl (Keep.cons 5 rfl (Keep.cons 16 rfl Keep.nil))))) ?_
    refine at_true rfl ?_
    refine at_seq ?_
    refine at_region ?_
    refine wl_read rfl rfl rfl (yl_build (cs := Enc.cells Msg.zero) rfl rfl (fun _ => by kernel_rfl)) ?_
    refine wl_store rfl rfl (es_at0 (es_storeN 0 rfl rfl rfl rfl (by kernel_rfl) rfl rfl)) ?_
    refine wl_read rfl rfl rfl (yl_assign rfl rfl) ?_
    refine wl_nil ?_
    refine at_keep (Keep.cons 0 rfl (Keep.cons 1 rfl (Keep.cons 4 rfl (Keep.cons 5 rfl (Keep.cons 16 rfl Keep.nil))))) ?_
    refine at_retH (fun _ hw => hw.tail) Try.func34 (resC1 0 rfl rfl rfl Try.underlying33 rfl (by kernel_rfl) rfl) ?_
    exact ⟨rfl, rfl⟩
theorem bytes_fn (xs ys : List UInt8) (A A2 : Option Addr) (c c2 : Nat) (b : World) (H : List Asr) (hR : Rd H A xs) (hR2 : Rd H A2 ys) : Fn Try.prog 17 [.slice A xs.length c, .slice A2 ys.length c2] b H (fun v H' => v = .bool (decide (xs = ys)) ∧ H = H') := by
  refine fn_of_at (by kernel_rfl) Try.func17 rfl Try.ntmps17 rfl rfl ?_
  refine at_seq ?_
  refine at_region ?_
  refine wl_read rfl rfl rfl (yl_assign rfl rfl) ?_
  refine wl_nil ?_
  refine at_keep (Keep.cons 0 rfl (Keep.cons 1 rfl (Keep.cons 4 rfl Keep.nil))) ?_
  refine at_seq ?_
  refine at_region ?_
  refine wl_read rfl rfl rfl (yl_move rfl rfl) ?_
  refine wl_read rfl rfl rfl (yl_string rfl rfl hR Try.underlying27 Try.underlying5 Try.underlying9) ?_
  refine wl_read rfl rfl rfl (yl_move rfl rfl) ?_
  refine wl_read rfl rfl rfl (yl_string rfl rfl hR2 Try.underlying27 Try.underlying5 Try.underlying9) ?_
  refine wl_split rfl rfl rfl (yp_eqStr rfl rfl rfl) ?_ ?_
  · intro h1_4
    refine wl_read rfl rfl rfl (yl_assign rfl rfl) ?_
    refine wl_nil ?_
    refine at_keep (Keep.cons 0 rfl (Keep.cons 1 rfl (Keep.cons 4 rfl Keep.nil))) ?_
    refine at_ret Try.func17 (res1 rfl rfl) ?_
    exact ⟨by rw [decide_eq_true h1_4], rfl⟩
  · intro h1_4
    refine wl_read rfl rfl rfl (yl_assign rfl rfl) ?_
    refine wl_nil ?_
    refine at_keep (Keep.cons 0 rfl (Keep.cons 1 rfl (Keep.cons 4 rfl Keep.nil))) ?_
    refine at_ret Try.func17 (res1 rfl rfl) ?_
    exact ⟨by rw [decide_eq_false h1_4], rfl⟩
theorem message_fn (x y : Msg) (b : World) (H : List Asr) (hR : Rd H x.A x.bs) (hR2 : Rd H y.A y.bs) : Fn Try.prog 23 [.agg (Enc.cells x).toArray, .agg (Enc.cells y).toArray] b H (fun v H' => v = .bool (decide (x.abs = y.abs)) ∧ H = H') := by
  have hiff : x.abs = y.abs ↔ x.from_ = y.from_ ∧ x.to_ = y.to_ ∧ x.bs = y.bs := by unfold Msg.abs; simp
  refine fn_of_at (by kernel_rfl) Try.func23 rfl Try.ntmps23 rfl rfl ?_
  refine at_seq ?_
  refine at_region ?_
  refine wl_eff rfl rfl rfl (ef_box rfl rfl rfl) ?_
  rintro _ _ ⟨g1, rfl, rfl⟩
  refine wl_eff rfl rfl rfl (ef_box rfl rfl rfl) ?_
  rintro _ _ ⟨g2, rfl, rfl⟩
  refine wl_read rfl rfl rfl (yl_assign rfl rfl) ?_
  refine wl_nil ?_
  refine at_keep (Keep.cons 0 rfl (Keep.cons 1 rfl (Keep.cons 2 rfl (Keep.cons 3 rfl (Keep.cons 4 rfl Keep.nil))))) ?_
  refine at_seq ?_
  refine at_region ?_
  refine wl_read rfl rfl rfl (yl_fieldB rfl rfl Try.underlying33 rfl (by kernel_rfl) rfl) ?_
  refine wl_read rfl rfl rfl (yl_load rfl rfl Try.underlying3 rfl (CellAt.bk 1 rfl rfl)) ?_
  refine wl_read rfl rfl rfl (yl_fieldB rfl rfl Try.underlying33 rfl (by kernel_rfl) rfl) ?_
  refine wl_read rfl rfl rfl (yl_load rfl rfl Try.underlying3 rfl (CellAt.bk 0 rfl rfl)) ?_
  refine wl_split rfl rfl rfl (yp_eql rfl rfl rfl) ?_ ?_
  · intro h1_4
    refine wl_read rfl rfl rfl (yl_move rfl rfl) ?_
    refine wl_read rfl rfl rfl (yl_fieldB rfl rfl Try.underlying33 rfl (by kernel_rfl) rfl) ?_
    refine wl_read rfl rfl rfl (yl_load rfl rfl Try.underlying3 rfl (CellAt.bk 1 rfl rfl)) ?_
    refine wl_read rfl rfl rfl (yl_fieldB rfl rfl Try.underlying33 rfl (by kernel_rfl) rfl) ?_
    refine wl_read rfl rfl rfl (yl_load rfl rfl Try.underlying3 rfl (CellAt.bk 0 rfl rfl)) ?_
    refine wl_split rfl rfl rfl (yp_eql rfl rfl rfl) ?_ ?_
    · intro h1_10
      refine wl_read rfl rfl rfl (yl_pickT rfl rfl rfl) ?_
      refine wl_read rfl rfl rfl (yl_move rfl rfl) ?_
      refine wl_read rfl rfl rfl (yl_fieldB rfl rfl Try.underlying33 rfl (by kernel_rfl) rfl) ?_
      refine wl_read rfl rfl rfl (yl_load rfl rfl Try.underlying27 rfl (CellAt.bk 1 rfl rfl)) ?_
      refine wl_read rfl rfl rfl (yl_fieldB rfl rfl Try.underlying33 rfl (by kernel_rfl) rfl) ?_
      refine wl_read rfl rfl rfl (yl_load rfl rfl Try.underlying27 rfl (CellAt.bk 0 rfl rfl)) ?_
      refine wl_call rfl rfl rfl (en_call rfl rfl) (bytes_fn x.bs y.bs _ _ _ _ _ _ ((hR.cons _).cons _) ((hR2.cons _).cons _)) ?_
      rintro _ _ ⟨rfl, rfl⟩
      rcases Classical.em (x.bs = y.bs) with hb | hb
      ·
        rw [decide_eq_true hb]
        refine wl_read rfl rfl rfl (yl_pickT rfl rfl rfl) ?_
        refine wl_read rfl rfl rfl (yl_assign rfl rfl) ?_
        refine wl_nil ?_
        refine at_keep (Keep.cons 0 rfl (Keep.cons 1 rfl (Keep.cons 2 rfl (Keep.cons 3 rfl (Keep.cons 4 rfl Keep.nil))))) ?_
        refine at_retH (fun _ hw => hw.tail.tail) Try.func23 (res1 rfl rfl) ?_
        exact ⟨by rw [decide_eq_true (hiff.2 ⟨h1_4, h1_10, hb⟩)], rfl⟩
      ·
        rw [decide_eq_false hb]
        refine wl_read rfl rfl rfl (yl_pickT rfl rfl rfl) ?_
        refine wl_read rfl rfl rfl (yl_assign rfl rfl) ?_
        refine wl_nil ?_
        refine at_keep (Keep.cons 0 rfl (Keep.cons 1 rfl (Keep.cons 2 rfl (Keep.cons 3 rfl (Keep.cons 4 rfl Keep.nil))))) ?_
        refine at_retH (fun _ hw => hw.tail.tail) Try.func23 (res1 rfl rfl) ?_
        exact ⟨by rw [decide_eq_false (fun h => hb (hiff.1 h).2.2)], rfl⟩
    · intro h1_10
      refine wl_read rfl rfl rfl (yl_pickT rfl rfl rfl) ?_
      refine wl_read rfl rfl rfl (yl_move rfl rfl) ?_
      refine wl_skip rfl rfl rfl ?_
      refine wl_skip rfl rfl rfl ?_
      refine wl_skip rfl rfl rfl ?_
      refine wl_skip rfl rfl rfl ?_
      refine wl_skip rfl rfl rfl ?_
      refine wl_read rfl rfl rfl (yl_pickF rfl rfl rfl) ?_
      refine wl_read rfl rfl rfl (yl_assign rfl rfl) ?_
      refine wl_nil ?_
      refine at_keep (Keep.cons 0 rfl (Keep.cons 1 rfl (Keep.cons 2 rfl (Keep.cons 3 rfl (Keep.cons 4 rfl Keep.nil))))) ?_
      refine at_retH (fun _ hw => hw.tail.tail) Try.func23 (res1 rfl rfl) ?_
      exact ⟨by rw [decide_eq_false (fun h => h1_10 (hiff.1 h).2.1)], rfl⟩
  · intro h1_4
    refine wl_read rfl rfl rfl (yl_move rfl rfl) ?_
    refine wl_skip rfl rfl rfl ?_
    refine wl_skip rfl rfl rfl ?_
    refine wl_skip rfl rfl rfl ?_
    refine wl_skip rfl rfl rfl ?_
    refine wl_skip rfl rfl rfl ?_
    refine wl_read rfl rfl rfl (yl_pickF rfl rfl rfl) ?_
    refine wl_read rfl rfl rfl (yl_move rfl rfl) ?_
    refine wl_skip rfl rfl rfl ?_
    refine wl_skip rfl rfl rfl ?_
    refine wl_skip rfl rfl rfl ?_
    refine wl_skip rfl rfl rfl ?_
    refine wl_skip rfl rfl rfl ?_
    refine wl_read rfl rfl rfl (yl_pickF rfl rfl rfl) ?_
    refine wl_read rfl rfl rfl (yl_assign rfl rfl) ?_
    refine wl_nil ?_
    refine at_keep (Keep.cons 0 rfl (Keep.cons 1 rfl (Keep.cons 2 rfl (Keep.cons 3 rfl (Keep.cons 4 rfl Keep.nil))))) ?_
    refine at_retH (fun _ hw => hw.tail.tail) Try.func23 (res1 rfl rfl) ?_
    exact ⟨by rw [decide_eq_false (fun h => h1_4 (hiff.1 h).1)], rfl⟩
end Go.Proofs.Ytcpcgllkdpfacaa

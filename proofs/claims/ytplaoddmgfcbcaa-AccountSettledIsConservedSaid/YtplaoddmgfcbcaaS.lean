/- Walks of the laws on an account and its reference, on sums, copies, and nil. -/
import Derived.Test.YtplaoddmgfcbcaaF
namespace Go.Proofs.Ytplaoddmgfcbcaa
open Go

theorem law7 (l : List Raw) (A : Option Addr) (c : Nat) (b : World) (H : List Asr) (hR : Rd H A l) (ha : ∀ i, i < l.length → I64 (at_ l i).amount) : Fn Try.prog 7 [.slice A l.length c] b H (fun v H' => v = .bool true ∧ H = H') := by
  have hel := entries_length l
  refine fn_of_at (by kernel_rfl) Try.func7 rfl Try.ntmps7 rfl rfl ?_
  refine at_seq ?_
  refine at_region ?_
  refine wl_read rfl rfl rfl (yl_assign rfl rfl) ?_
  refine wl_nil ?_
  refine at_keep (Keep.cons 0 rfl (Keep.cons 2 rfl Keep.nil)) ?_
  refine at_seq ?_
  refine at_region ?_
  refine wl_call rfl rfl rfl (en_call rfl rfl) (new_fn _ _) ?_
  rintro _ _ ⟨g, rfl, rfl⟩
  refine wl_read rfl rfl rfl (yl_build (cs := [.slice none 0 0]) rfl rfl (fun _ => by kernel_rfl)) ?_
  refine wl_eff rfl rfl rfl (ef_box rfl rfl rfl) ?_
  rintro _ _ ⟨r, rfl, rfl⟩
  refine wl_read rfl rfl rfl (yl_assign rfl rfl) ?_
  refine wl_read rfl rfl rfl (yl_assign rfl rfl) ?_
  refine wl_nil ?_
  refine at_keep (Keep.cons 0 rfl (Keep.cons 2 rfl (Keep.cons 3 rfl (Keep.cons 4 rfl Keep.nil)))) ?_
  refine at_seq ?_
  refine at_heap (fun _ hw => RAcc.closes (es := []) (hw.nilSl (α := Entry) 33).front1) ?_
  refine at_region ?_
  refine wl_read rfl rfl rfl (yl_move rfl rfl) ?_
  refine wl_call rfl rfl rfl (en_call rfl rfl) (entraw_fn l A c _ _ ((hR.cons _).cons _) ha) ?_
  rintro _ _ ⟨A1, c1, rfl, rfl⟩
  refine wl_read rfl rfl rfl (yl_assign rfl rfl) ?_
  refine wl_nil ?_
  refine at_keep (Keep.cons 0 rfl (Keep.cons 2 rfl (Keep.cons 3 rfl (Keep.cons 4 rfl (Keep.cons 5 rfl Keep.nil))))) ?_
  refine at_seq ?_
  refine at_seq ?_
  refine at_heap (fun _ hw => hw.front1.front2) ?_
  refine at_region ?_
  refine wl_read rfl rfl rfl (yl_assign rfl rfl) ?_
  refine wl_nil ?_
  refine at_keep (Keep.cons 0 rfl (Keep.cons 2 rfl (Keep.cons 3 rfl (Keep.cons 4 rfl (Keep.cons 5 rfl (Keep.cons 6 rfl Keep.nil)))))) ?_
  refine at_block ?_
  refine at_keep (L' := (fun (k : Nat) => [(3, .pointer (some ⟨g, 0, none⟩)), (4, .pointer (some ⟨r, 0, none⟩)), (5, .slice A1 (entries l).length c1), (6, .int .i64 (k : Int))]) 0) (Keep.consEq 3 rfl rfl (Keep.consEq 4 rfl rfl (Keep.consEq 5 rfl rfl (Keep.consEq 6 rfl rfl Keep.nil)))) ?_
  refine at_loop1 (fun (k : Nat) => k ≤ (entries l).length) (fun (k : Nat) => [(3, .pointer (some ⟨g, 0, none⟩)), (4, .pointer (some ⟨r, 0, none⟩)), (5, .slice A1 (entries l).length c1), (6, .int .i64 (k : Int))]) (fun (k : Nat) => Acc g (postsN [] (entries l) k) :: RAcc r (postsN [] (entries l) k) :: Sl A1 c1 33 (entries l) :: H) (fun (k : Nat) => (entries l).length - k) 0 (by omega) ?_
  intro k hI ih
  have hgk := Good.nil.posts (entries l) k
  have hgn := Good.nil.posts (entries l) (k + 1)
  have hpl := postsN_length [] (entries l) k
  have hpn := postsN_length [] (entries l) (k + 1)
  simp only [List.length_nil] at hpl hpn
  refine at_seq ?_
  refine at_seq ?_
  refine at_region ?_
  refine wl_read rfl rfl rfl (yl_move rfl rfl) ?_
  refine wl_read rfl rfl rfl (yl_move rfl rfl) ?_
  refine wl_read rfl rfl rfl (yl_len rfl rfl Try.underlying27) ?_
  refine wl_split rfl rfl rfl (yp_lss rfl rfl rfl) ?_ ?_
  · intro h4_3
    refine wl_nil ?_
    refine at_keep (Keep.cons 3 rfl (Keep.cons 4 rfl (Keep.cons 5 rfl (Keep.cons 6 rfl (Keep.cons 15 rfl Keep.nil))))) ?_
    refine at_true rfl ?_
    refine at_skip ?_
    refine at_seq ?_
    refine at_block ?_
    refine at_seq ?_
    have hk1 : k < (entries l).length := by omega
    refine at_draw2 (.fl 0 (.fl 1 (.fl 2 (.fl 3 (.fl 4 (.fl 6 (.fl 7 (.fl 8 (.fl 9 (.fl 10 (.ef 5 (.ef 11 (.fl 12 (.fl 13 (.fl 14 (.fl 15 (.ef 16 (.fl 17 (.fl 18 .nil))))))))))))))))))) (by kernel_rfl) (by kernel_rfl) ?_
    refine wt_read rfl rfl rfl rfl (yl_move rfl rfl) ?_
    refine wt_read rfl rfl rfl rfl (yl_move rfl rfl) ?_
    refine wt_read rfl rfl rfl rfl (yl_move rfl rfl) ?_
    refine wt_read rfl rfl rfl rfl (yl_index rfl rfl rfl (Rd.of_sl 0 rfl) (at_some hk1) rfl rfl Try.underlying27 (by kernel_rfl) rfl) ?_
    refine wt_read rfl rfl rfl rfl (yl_loadRow rfl rfl (Rd.of_sl 0 rfl) (at_some hk1) Try.underlying33 rfl (by kernel_rfl) rfl) ?_
    refine wt_read rfl rfl rfl rfl (yl_move rfl rfl) ?_
    refine wt_read rfl rfl rfl rfl (yl_move rfl rfl) ?_
    refine wt_read rfl rfl rfl rfl (yl_move rfl rfl) ?_
    refine wt_read rfl rfl rfl rfl (yl_index rfl rfl rfl (Rd.of_sl 0 rfl) (at_some hk1) rfl rfl Try.underlying27 (by kernel_rfl) rfl) ?_
    refine wt_read rfl rfl rfl rfl (yl_loadRow rfl rfl (Rd.of_sl 0 rfl) (at_some hk1) Try.underlying33 rfl (by kernel_rfl) rfl) ?_
    refine wt_call rfl rfl rfl rfl (en_call rfl rfl) (post_fn _ (at_ (entries l) k) g _ _ hgk (by omega)) ?_
    rintro _ _ ⟨rfl, rfl⟩
    refine ⟨⟨[_, _], rfl⟩, ?_⟩
    refine wt_heap (fun _ hw => hw.front1) ?_
    refine wt_call rfl rfl rfl rfl (en_call rfl rfl) (rpost_fn _ (at_ (entries l) k) r _ _ hgk (by omega)) ?_
    rintro _ _ ⟨rfl, rfl⟩
    refine ⟨⟨[_, _], rfl⟩, ?_⟩
    refine wt_read rfl rfl rfl rfl ((yp_neq rfl rfl rfl).2 (by simp)) ?_
    refine wt_read rfl rfl rfl rfl (yl_move rfl rfl) ?_
    refine wt_read rfl rfl rfl rfl (yl_move rfl rfl) ?_
    refine wt_read rfl rfl rfl rfl (yl_move rfl rfl) ?_
    refine wt_heap (fun _ hw => hw.front1) ?_
    refine wt_call rfl rfl rfl rfl (en_call rfl rfl) (both_fn (postsN [] (entries l) (k + 1)) g r _ _ hgn (by omega)) ?_
    rintro _ _ ⟨rfl, rfl⟩
    refine ⟨⟨[_, _], rfl⟩, ?_⟩
    refine wt_read rfl rfl rfl rfl (yl_notT rfl rfl) ?_
    refine wt_read rfl rfl rfl rfl (yl_pickF rfl rfl rfl) ?_
    refine wt_nil ?_
    refine at_keep (Keep.cons 3 rfl (Keep.cons 4 rfl (Keep.cons 5 rfl (Keep.cons 6 rfl (Keep.cons 15 rfl (Keep.cons 36 rfl Keep.nil)))))) ?_
    refine at_false rfl ?_
    refine at_skip ?_
    refine at_inBlock ?_
    refine at_region ?_
    refine wl_read rfl rfl rfl (yl_move rfl rfl) ?_
    refine wl_read rfl rfl rfl (yl_add rfl rfl rfl (w64 (by omega) (by omega))) ?_
    refine wl_read rfl rfl rfl (yl_assign rfl rfl) ?_
    refine wl_nil ?_
    refine at_keep (Keep.cons 3 rfl (Keep.cons 4 rfl (Keep.cons 5 rfl (Keep.cons 6 rfl (Keep.cons 15 rfl (Keep.cons 36 rfl Keep.nil)))))) ?_
    exact at_keep (L' := (fun (k : Nat) => [(3, .pointer (some ⟨g, 0, none⟩)), (4, .pointer (some ⟨r, 0, none⟩)), (5, .slice A1 (entries l).length c1), (6, .int .i64 (k : Int))]) (k + 1)) (Keep.consEq 3 rfl rfl (Keep.consEq 4 rfl rfl (Keep.consEq 5 rfl rfl (Keep.consEq 6 rfl rfl Keep.nil)))) (ih (k + 1) (by omega) (by omega))
  · intro h4_3
    refine wl_nil ?_
    refine at_keep (Keep.cons 3 rfl (Keep.cons 4 rfl (Keep.cons 5 rfl (Keep.cons 6 rfl (Keep.cons 15 rfl Keep.nil))))) ?_
    refine at_false rfl ?_
    refine at_exit rfl ?_
    refine at_seq ?_
    refine at_region ?_
    refine wl_call rfl rfl rfl (en_call rfl rfl) (awake_fn _ _) ?_
    rintro _ _ ⟨rfl, rfl⟩
    refine wl_read rfl rfl rfl (yl_move rfl rfl) ?_
    refine wl_read rfl rfl rfl (yl_move rfl rfl) ?_
    refine wl_read rfl rfl rfl (yl_move rfl rfl) ?_
    refine wl_call rfl rfl rfl (en_call rfl rfl) (both_fn (postsN [] (entries l) k) g r _ _ hgk (by omega)) ?_
    rintro _ _ ⟨rfl, rfl⟩
    refine wl_read rfl rfl rfl (yl_pickT rfl rfl rfl) ?_
    refine wl_read rfl rfl rfl (yl_assign rfl rfl) ?_
    refine wl_nil ?_
    refine at_keep (Keep.cons 2 rfl (Keep.cons 3 rfl (Keep.cons 4 rfl (Keep.cons 5 rfl (Keep.cons 6 rfl (Keep.cons 15 rfl Keep.nil)))))) ?_
    refine at_retH (fun _ hw => hw.tail.tail.tail) Try.func7 (res1 rfl rfl) ?_
    exact ⟨rfl, rfl⟩
theorem law8 (l : List Entry) (A : Option Addr) (c : Nat) (b : World) (H : List Asr) (hR : Rd H A l) : Fn Try.prog 8 [.slice A l.length c] b H (fun v H' => v = .bool true ∧ H = H') := by
  refine fn_of_at (by kernel_rfl) Try.func8 rfl Try.ntmps8 rfl rfl ?_
  refine at_seq ?_
  refine at_region ?_
  refine wl_read rfl rfl rfl (yl_assign rfl rfl) ?_
  refine wl_nil ?_
  refine at_keep (Keep.cons 0 rfl (Keep.cons 2 rfl Keep.nil)) ?_
  refine at_seq ?_
  refine at_seq ?_
  refine at_region ?_
  refine wl_read rfl rfl rfl (yl_move rfl rfl) ?_
  refine wl_read rfl rfl rfl (yl_len rfl rfl Try.underlying27) ?_
  refine wl_split rfl rfl rfl (yp_gtr rfl rfl rfl) ?_ ?_
  · intro h1_2
    refine wl_nil ?_
    refine at_keep (Keep.cons 0 rfl (Keep.cons 2 rfl (Keep.cons 8 rfl Keep.nil))) ?_
    refine at_true rfl ?_
    refine at_seq ?_
    refine at_region ?_
    refine wl_call rfl rfl rfl (en_call rfl rfl) (awake_fn _ _) ?_
    rintro _ _ ⟨rfl, rfl⟩
    refine wl_read rfl rfl rfl (yl_assign rfl rfl) ?_
    refine wl_nil ?_
    refine at_keep (Keep.cons 0 rfl (Keep.cons 2 rfl (Keep.cons 8 rfl Keep.nil))) ?_
    refine at_ret Try.func8 (res1 rfl rfl) ?_
    exact ⟨rfl, rfl⟩
  · intro h1_2
    refine wl_nil ?_
    refine at_keep (Keep.cons 0 rfl (Keep.cons 2 rfl (Keep.cons 8 rfl Keep.nil))) ?_
    refine at_false rfl ?_
    refine at_skip ?_
    refine at_seq ?_
    refine at_region ?_
    refine wl_call rfl rfl rfl (en_call rfl rfl) (new_fn _ _) ?_
    rintro _ _ ⟨g, rfl, rfl⟩
    refine wl_read rfl rfl rfl (yl_build (cs := [.slice none 0 0]) rfl rfl (fun _ => by kernel_rfl)) ?_
    refine wl_eff rfl rfl rfl (ef_box rfl rfl rfl) ?_
    rintro _ _ ⟨r, rfl, rfl⟩
    refine wl_read rfl rfl rfl (yl_assign rfl rfl) ?_
    refine wl_read rfl rfl rfl (yl_assign rfl rfl) ?_
    refine wl_nil ?_
    refine at_keep (Keep.cons 0 rfl (Keep.cons 2 rfl (Keep.cons 3 rfl (Keep.cons 4 rfl (Keep.cons 8 rfl Keep.nil))))) ?_
    refine at_seq ?_
    refine at_seq ?_
    refine at_heap (fun _ hw => RAcc.closes (es := []) (hw.nilSl (α := Entry) 33).front1) ?_
    refine at_heap (fun _ hw => hw.front1) ?_
    refine at_region ?_
    refine wl_read rfl rfl rfl (yl_assign rfl rfl) ?_
    refine wl_nil ?_
    refine at_keep (Keep.cons 0 rfl (Keep.cons 2 rfl (Keep.cons 3 rfl (Keep.cons 4 rfl (Keep.cons 5 rfl (Keep.cons 8 rfl Keep.nil)))))) ?_
    refine at_block ?_
    refine at_keep (L' := (fun (k : Nat) => [(0, .slice A l.length c), (3, .pointer (some ⟨g, 0, none⟩)), (4, .pointer (some ⟨r, 0, none⟩)), (5, .int .i64 (k : Int))]) 0) (Keep.consEq 0 rfl rfl (Keep.consEq 3 rfl rfl (Keep.consEq 4 rfl rfl (Keep.consEq 5 rfl rfl Keep.nil)))) ?_
    refine at_loop1 (fun (k : Nat) => k ≤ l.length) (fun (k : Nat) => [(0, .slice A l.length c), (3, .pointer (some ⟨g, 0, none⟩)), (4, .pointer (some ⟨r, 0, none⟩)), (5, .int .i64 (k : Int))]) (fun (k : Nat) => Acc g (postsN [] l k) :: RAcc r (postsN [] l k) :: H) (fun (k : Nat) => l.length - k) 0 (by omega) ?_
    intro k hI ih
    have hgk := Good.nil.posts l k
    have hpl := postsN_length [] l k
    simp only [List.length_nil] at hpl
    refine at_seq ?_
    refine at_seq ?_
    refine at_region ?_
    refine wl_read rfl rfl rfl (yl_move rfl rfl) ?_
    refine wl_read rfl rfl rfl (yl_move rfl rfl) ?_
    refine wl_read rfl rfl rfl (yl_len rfl rfl Try.underlying27) ?_
    refine wl_split rfl rfl rfl (yp_lss rfl rfl rfl) ?_ ?_
    · intro h5_3
      refine wl_nil ?_
      refine at_keep (Keep.cons 0 rfl (Keep.cons 3 rfl (Keep.cons 4 rfl (Keep.cons 5 rfl (Keep.cons 16 rfl Keep.nil))))) ?_
      refine at_true rfl ?_
      refine at_skip ?_
      refine at_seq ?_
      refine at_block ?_
      refine at_seq ?_
      have hk1 : k < l.length := by omega
      refine at_draw2 (.fl 0 (.fl 1 (.fl 2 (.fl 3 (.fl 4 (.fl 6 (.fl 7 (.fl 8 (.fl 9 (.fl 10 (.ef 5 (.ef 11 (.fl 12 .nil))))))))))))) (by kernel_rfl) (by kernel_rfl) ?_
      refine wt_read rfl rfl rfl rfl (yl_move rfl rfl) ?_
      refine wt_read rfl rfl rfl rfl (yl_move rfl rfl) ?_
      refine wt_read rfl rfl rfl rfl (yl_move rfl rfl) ?_
      refine wt_read rfl rfl rfl rfl (yl_index rfl rfl rfl hR (at_some hk1) rfl rfl Try.underlying27 (by kernel_rfl) rfl) ?_
      refine wt_read rfl rfl rfl rfl (yl_loadRow rfl rfl hR (at_some hk1) Try.underlying33 rfl (by kernel_rfl) rfl) ?_
      refine wt_read rfl rfl rfl rfl (yl_move rfl rfl) ?_
      refine wt_read rfl rfl rfl rfl (yl_move rfl rfl) ?_
      refine wt_read rfl rfl rfl rfl (yl_move rfl rfl) ?_
      refine wt_read rfl rfl rfl rfl (yl_index rfl rfl rfl hR (at_some hk1) rfl rfl Try.underlying27 (by kernel_rfl) rfl) ?_
      refine wt_read rfl rfl rfl rfl (yl_loadRow rfl rfl hR (at_some hk1) Try.underlying33 rfl (by kernel_rfl) rfl) ?_
      refine wt_call rfl rfl rfl rfl (en_call rfl rfl) (post_fn _ (at_ l k) g _ _ hgk (by omega)) ?_
      rintro _ _ ⟨rfl, rfl⟩
      refine ⟨⟨[_, _], rfl⟩, ?_⟩
      refine wt_heap (fun _ hw => hw.front1) ?_
      refine wt_call rfl rfl rfl rfl (en_call rfl rfl) (rpost_fn _ (at_ l k) r _ _ hgk (by omega)) ?_
      rintro _ _ ⟨rfl, rfl⟩
      refine ⟨⟨[_, _], rfl⟩, ?_⟩
      refine wt_read rfl rfl rfl rfl ((yp_neq rfl rfl rfl).2 (by simp)) ?_
      refine wt_nil ?_
      refine at_keep (Keep.cons 0 rfl (Keep.cons 3 rfl (Keep.cons 4 rfl (Keep.cons 5 rfl (Keep.cons 16 rfl (Keep.cons 31 rfl Keep.nil)))))) ?_
      refine at_false rfl ?_
      refine at_skip ?_
      refine at_inBlock ?_
      refine at_region ?_
      refine wl_read rfl rfl rfl (yl_move rfl rfl) ?_
      refine wl_read rfl rfl rfl (yl_add rfl rfl rfl (w64 (by omega) (by omega))) ?_
      refine wl_read rfl rfl rfl (yl_assign rfl rfl) ?_
      refine wl_nil ?_
      refine at_keep (Keep.cons 0 rfl (Keep.cons 3 rfl (Keep.cons 4 rfl (Keep.cons 5 rfl (Keep.cons 16 rfl (Keep.cons 31 rfl Keep.nil)))))) ?_
      refine at_heap (fun _ hw => hw.front1) ?_
      exact at_keep (L' := (fun (k : Nat) => [(0, .slice A l.length c), (3, .pointer (some ⟨g, 0, none⟩)), (4, .pointer (some ⟨r, 0, none⟩)), (5, .int .i64 (k : Int))]) (k + 1)) (Keep.consEq 0 rfl rfl (Keep.consEq 3 rfl rfl (Keep.consEq 4 rfl rfl (Keep.consEq 5 rfl rfl Keep.nil)))) (ih (k + 1) (by omega) (by omega))
    · intro h5_3
      refine wl_nil ?_
      refine at_keep (Keep.cons 0 rfl (Keep.cons 3 rfl (Keep.cons 4 rfl (Keep.cons 5 rfl (Keep.cons 16 rfl Keep.nil))))) ?_
      refine at_false rfl ?_
      refine at_exit rfl ?_
      refine at_seq ?_
      refine at_region ?_
      refine wl_call rfl rfl rfl (en_call rfl rfl) (awake_fn _ _) ?_
      rintro _ _ ⟨rfl, rfl⟩
      refine wl_read rfl rfl rfl (yl_move rfl rfl) ?_
      refine wl_read rfl rfl rfl (yl_move rfl rfl) ?_
      refine wl_read rfl rfl rfl (yl_move rfl rfl) ?_
      refine wl_call rfl rfl rfl (en_call rfl rfl) (both_fn (postsN [] l k) g r _ _ hgk (by omega)) ?_
      rintro _ _ ⟨rfl, rfl⟩
      refine wl_read rfl rfl rfl (yl_pickT rfl rfl rfl) ?_
      refine wl_read rfl rfl rfl (yl_assign rfl rfl) ?_
      refine wl_nil ?_
      refine at_keep (Keep.cons 0 rfl (Keep.cons 2 rfl (Keep.cons 3 rfl (Keep.cons 4 rfl (Keep.cons 5 rfl (Keep.cons 16 rfl Keep.nil)))))) ?_
      refine at_retH (fun _ hw => hw.tail.tail) Try.func8 (res1 rfl rfl) ?_
      exact ⟨rfl, rfl⟩
theorem law9 (l : List Raw) (A : Option Addr) (c : Nat) (total : Int) (b : World) (H : List Asr) (hR : Rd H A l) (ha : ∀ i, i < l.length → I64 (at_ l i).amount) (ht : I64 total) : Fn Try.prog 9 [.slice A l.length c, .int .i64 total] b H (fun v H' => v = .bool true ∧ H = H') := by
  have hgd := acc_good l
  have hln := acc_length l
  have hbd := hgd.bound
  have ham := am_bd total
  have s1 := sumK_bd hgd 1
  have s2 := sumK_bd hgd 2
  have s3 := sumK_bd hgd 3
  have hst : stl (acc l) = sumK (acc l) 1 + sumK (acc l) 2 - sumK (acc l) 3 := rfl
  refine fn_of_at (by kernel_rfl) Try.func9 rfl Try.ntmps9 rfl rfl ?_
  refine at_seq ?_
  refine at_region ?_
  refine wl_read rfl rfl rfl (yl_assign rfl rfl) ?_
  refine wl_nil ?_
  refine at_keep (Keep.cons 0 rfl (Keep.cons 1 rfl (Keep.cons 4 rfl Keep.nil))) ?_
  refine at_seq ?_
  refine at_region ?_
  refine wl_call rfl rfl rfl (en_call rfl rfl) (new_fn _ _) ?_
  rintro _ _ ⟨g, rfl, rfl⟩
  refine wl_read rfl rfl rfl (yl_assign rfl rfl) ?_
  refine wl_nil ?_
  refine at_keep (Keep.cons 0 rfl (Keep.cons 1 rfl (Keep.cons 4 rfl (Keep.cons 5 rfl Keep.nil)))) ?_
  refine at_seq ?_
  refine at_region ?_
  refine wl_read rfl rfl rfl (yl_move rfl rfl) ?_
  refine wl_read rfl rfl rfl (yl_move rfl rfl) ?_
  refine wl_call rfl rfl rfl (en_call rfl rfl) (entraw_fn l A c _ _ (hR.cons _) ha) ?_
  rintro _ _ ⟨A1, c1, rfl, rfl⟩
  refine wl_heap (fun _ hw => hw.front1) ?_
  refine wl_call rfl rfl rfl (en_call rfl rfl) (play_acc l g _ _ _ _ (Rd.of_sl 0 rfl)) ?_
  rintro _ _ ⟨A2, c2, rfl, rfl⟩
  refine wl_nil ?_
  refine at_keep (Keep.cons 0 rfl (Keep.cons 1 rfl (Keep.cons 4 rfl (Keep.cons 5 rfl Keep.nil)))) ?_
  refine at_seq ?_
  refine at_region ?_
  refine wl_read rfl rfl rfl (yl_move rfl rfl) ?_
  refine wl_call rfl rfl rfl (en_call rfl rfl) (amount_fn _ _ _ ht) ?_
  rintro _ _ ⟨rfl, rfl⟩
  refine wl_read rfl rfl rfl (yl_assign rfl rfl) ?_
  refine wl_nil ?_
  refine at_keep (Keep.cons 0 rfl (Keep.cons 1 rfl (Keep.cons 4 rfl (Keep.cons 5 rfl (Keep.cons 6 rfl Keep.nil))))) ?_
  refine at_seq ?_
  refine at_region ?_
  refine wl_read rfl rfl rfl (yl_assign rfl rfl) ?_
  refine wl_read rfl rfl rfl (yl_assign rfl rfl) ?_
  refine wl_read rfl rfl rfl (yl_assign rfl rfl) ?_
  refine wl_nil ?_
  refine at_keep (Keep.cons 0 rfl (Keep.cons 1 rfl (Keep.cons 4 rfl (Keep.cons 5 rfl (Keep.cons 6 rfl (Keep.cons 7 rfl (Keep.cons 8 rfl (Keep.cons 9 rfl Keep.nil)))))))) ?_
  refine at_seq ?_
  refine at_region ?_
  refine wl_read rfl rfl rfl (yl_move rfl rfl) ?_
  refine wl_heap (fun _ hw => hw.front1) ?_
  refine wl_call rfl rfl rfl (en_call rfl rfl) (entries_fn _ g _ _ (by omega)) ?_
  rintro _ _ ⟨An, cn, rfl, rfl⟩
  refine wl_read rfl rfl rfl (yl_assign rfl rfl) ?_
  refine wl_nil ?_
  refine at_keep (Keep.cons 0 rfl (Keep.cons 1 rfl (Keep.cons 4 rfl (Keep.cons 5 rfl (Keep.cons 6 rfl (Keep.cons 7 rfl (Keep.cons 8 rfl (Keep.cons 9 rfl (Keep.cons 10 rfl Keep.nil))))))))) ?_
  refine at_seq ?_
  refine at_seq ?_
  refine at_heap (fun _ hw => hw.front2.tail) ?_
  refine at_heap (fun _ hw => hw.front2.tail) ?_
  refine at_heap (fun _ hw => hw.front1.front1) ?_
  refine at_region ?_
  refine wl_read rfl rfl rfl (yl_assign rfl rfl) ?_
  refine wl_nil ?_
  refine at_keep (Keep.cons 0 rfl (Keep.cons 1 rfl (Keep.cons 4 rfl (Keep.cons 5 rfl (Keep.cons 6 rfl (Keep.cons 7 rfl (Keep.cons 8 rfl (Keep.cons 9 rfl (Keep.cons 10 rfl (Keep.cons 11 rfl Keep.nil)))))))))) ?_
  refine at_block ?_
  refine at_keep (L' := (fun (k : Nat) => [(5, .pointer (some ⟨g, 0, none⟩)), (6, .int .i64 (am total)), (7, .int .i64 (sumN (acc l) 1 k)), (8, .int .i64 (sumN (acc l) 2 k)), (9, .int .i64 (sumN (acc l) 3 k)), (10, .slice An (acc l).length cn), (11, .int .i64 (k : Int))]) 0) (Keep.consEq 5 rfl rfl (Keep.consEq 6 rfl rfl (Keep.consEq 7 rfl rfl (Keep.consEq 8 rfl rfl (Keep.consEq 9 rfl rfl (Keep.consEq 10 rfl rfl (Keep.consEq 11 rfl rfl Keep.nil))))))) ?_
  refine at_loop1 (fun (k : Nat) => k ≤ (acc l).length) (fun (k : Nat) => [(5, .pointer (some ⟨g, 0, none⟩)), (6, .int .i64 (am total)), (7, .int .i64 (sumN (acc l) 1 k)), (8, .int .i64 (sumN (acc l) 2 k)), (9, .int .i64 (sumN (acc l) 3 k)), (10, .slice An (acc l).length cn), (11, .int .i64 (k : Int))]) (fun (k : Nat) => Sl An cn 33 (acc l) :: Acc g (acc l) :: H) (fun (k : Nat) => (acc l).length - k) 0 (by omega) ?_
  intro k hI ih
  have b1 := sumN_bd hgd 1 k (by omega)
  have b2 := sumN_bd hgd 2 k (by omega)
  have b3 := sumN_bd hgd 3 k (by omega)
  refine at_seq ?_
  refine at_seq ?_
  refine at_region ?_
  refine wl_read rfl rfl rfl (yl_move rfl rfl) ?_
  refine wl_read rfl rfl rfl (yl_move rfl rfl) ?_
  refine wl_read rfl rfl rfl (yl_len rfl rfl Try.underlying27) ?_
  refine wl_split rfl rfl rfl (yp_lss rfl rfl rfl) ?_ ?_
  · intro h7_3
    refine wl_nil ?_
    refine at_keep (Keep.cons 5 rfl (Keep.cons 6 rfl (Keep.cons 7 rfl (Keep.cons 8 rfl (Keep.cons 9 rfl (Keep.cons 10 rfl (Keep.cons 11 rfl (Keep.cons 26 rfl Keep.nil)))))))) ?_
    refine at_true rfl ?_
    refine at_skip ?_
    refine at_seq ?_
    refine at_block ?_
    refine at_seq ?_
    have hk1 : k < (acc l).length := by omega
    have hav := (hgd.valid k hk1).1
    refine at_region ?_
    refine wl_read rfl rfl rfl (yl_move rfl rfl) ?_
    refine wl_read rfl rfl rfl (yl_move rfl rfl) ?_
    refine wl_read rfl rfl rfl (yl_index rfl rfl rfl (Rd.of_sl 0 rfl) (at_some hk1) rfl rfl Try.underlying27 (by kernel_rfl) rfl) ?_
    refine wl_read rfl rfl rfl (yl_field rfl rfl Try.underlying33 rfl (by kernel_rfl) rfl) ?_
    refine wl_read rfl rfl rfl (yl_load rfl rfl Try.underlying3 rfl ((Rd.of_sl 0 rfl).cell2 (at_some hk1) rfl)) ?_
    refine wl_nil ?_
    refine at_keep (Keep.cons 5 rfl (Keep.cons 6 rfl (Keep.cons 7 rfl (Keep.cons 8 rfl (Keep.cons 9 rfl (Keep.cons 10 rfl (Keep.cons 11 rfl (Keep.cons 26 rfl (Keep.cons 33 rfl Keep.nil))))))))) ?_
    refine at_block ?_
    refine at_seq ?_
    refine at_region ?_
    refine wl_split rfl rfl rfl (yp_eql rfl rfl rfl) ?_ ?_
    · intro h11_0
      refine wl_read rfl rfl rfl (yl_assign rfl rfl) ?_
      refine wl_nil ?_
      refine at_keep (Keep.cons 5 rfl (Keep.cons 6 rfl (Keep.cons 7 rfl (Keep.cons 8 rfl (Keep.cons 9 rfl (Keep.cons 10 rfl (Keep.cons 11 rfl (Keep.cons 26 rfl (Keep.cons 33 rfl (Keep.cons 41 rfl Keep.nil)))))))))) ?_
      refine at_true rfl ?_
      refine at_region ?_
      refine wl_read rfl rfl rfl (yl_move rfl rfl) ?_
      refine wl_read rfl rfl rfl (yl_move rfl rfl) ?_
      refine wl_read rfl rfl rfl (yl_move rfl rfl) ?_
      refine wl_read rfl rfl rfl (yl_index rfl rfl rfl (Rd.of_sl 0 rfl) (at_some hk1) rfl rfl Try.underlying27 (by kernel_rfl) rfl) ?_
      refine wl_read rfl rfl rfl (yl_field rfl rfl Try.underlying33 rfl (by kernel_rfl) rfl) ?_
      refine wl_read rfl rfl rfl (yl_load rfl rfl Try.underlying3 rfl ((Rd.of_sl 0 rfl).cell2 (at_some hk1) rfl)) ?_
      refine wl_read rfl rfl rfl (yl_add rfl rfl rfl (w64 (by omega) (by omega))) ?_
      refine wl_read rfl rfl rfl (yl_assign rfl rfl) ?_
      refine wl_nil ?_
      refine at_keep (Keep.cons 5 rfl (Keep.cons 6 rfl (Keep.cons 7 rfl (Keep.cons 8 rfl (Keep.cons 9 rfl (Keep.cons 10 rfl (Keep.cons 11 rfl (Keep.cons 26 rfl (Keep.cons 33 rfl (Keep.cons 41 rfl Keep.nil)))))))))) ?_
      refine at_inBlock ?_
      refine at_inBlock ?_
      have h1 := h11_0
      have q1 : sumN (acc l) 1 (k + 1) = sumN (acc l) 1 k + (at_ (acc l) k).amount := by rw [sumN, if_pos h1]
      have q2 : sumN (acc l) 2 (k + 1) = sumN (acc l) 2 k := by rw [sumN, if_neg (by omega), Int.add_zero]
      have q3 : sumN (acc l) 3 (k + 1) = sumN (acc l) 3 k := by rw [sumN, if_neg (by omega), Int.add_zero]
      refine at_region ?_
      refine wl_read rfl rfl rfl (yl_move rfl rfl) ?_
      refine wl_read rfl rfl rfl (yl_add rfl rfl rfl (w64 (by omega) (by omega))) ?_
      refine wl_read rfl rfl rfl (yl_assign rfl rfl) ?_
      refine wl_nil ?_
      refine at_keep (Keep.cons 5 rfl (Keep.cons 6 rfl (Keep.cons 7 rfl (Keep.cons 8 rfl (Keep.cons 9 rfl (Keep.cons 10 rfl (Keep.cons 11 rfl (Keep.cons 26 rfl (Keep.cons 33 rfl (Keep.cons 41 rfl Keep.nil)))))))))) ?_
      exact at_keep (L' := (fun (k : Nat) => [(5, .pointer (some ⟨g, 0, none⟩)), (6, .int .i64 (am total)), (7, .int .i64 (sumN (acc l) 1 k)), (8, .int .i64 (sumN (acc l) 2 k)), (9, .int .i64 (sumN (acc l) 3 k)), (10, .slice An (acc l).length cn), (11, .int .i64 (k : Int))]) (k + 1)) (Keep.consEq 5 rfl rfl (Keep.consEq 6 rfl rfl (Keep.consEq 7 rfl (by rw [q1]) (Keep.consEq 8 rfl (by rw [q2]) (Keep.consEq 9 rfl (by rw [q3]) (Keep.consEq 10 rfl rfl (Keep.consEq 11 rfl rfl Keep.nil))))))) (ih (k + 1) (by omega) (by omega))
    · intro h11_0
      refine wl_read rfl rfl rfl (yl_assign rfl rfl) ?_
      refine wl_nil ?_
      refine at_keep (Keep.cons 5 rfl (Keep.cons 6 rfl (Keep.cons 7 rfl (Keep.cons 8 rfl (Keep.cons 9 rfl (Keep.cons 10 rfl (Keep.cons 11 rfl (Keep.cons 26 rfl (Keep.cons 33 rfl (Keep.cons 41 rfl Keep.nil)))))))))) ?_
      refine at_false rfl ?_
      refine at_seq ?_
      refine at_region ?_
      refine wl_split rfl rfl rfl (yp_eql rfl rfl rfl) ?_ ?_
      · intro h13_0
        refine wl_read rfl rfl rfl (yl_assign rfl rfl) ?_
        refine wl_nil ?_
        refine at_keep (Keep.cons 5 rfl (Keep.cons 6 rfl (Keep.cons 7 rfl (Keep.cons 8 rfl (Keep.cons 9 rfl (Keep.cons 10 rfl (Keep.cons 11 rfl (Keep.cons 26 rfl (Keep.cons 33 rfl (Keep.cons 41 rfl (Keep.cons 50 rfl Keep.nil))))))))))) ?_
        refine at_true rfl ?_
        refine at_region ?_
        refine wl_read rfl rfl rfl (yl_move rfl rfl) ?_
        refine wl_read rfl rfl rfl (yl_move rfl rfl) ?_
        refine wl_read rfl rfl rfl (yl_move rfl rfl) ?_
        refine wl_read rfl rfl rfl (yl_index rfl rfl rfl (Rd.of_sl 0 rfl) (at_some hk1) rfl rfl Try.underlying27 (by kernel_rfl) rfl) ?_
        refine wl_read rfl rfl rfl (yl_field rfl rfl Try.underlying33 rfl (by kernel_rfl) rfl) ?_
        refine wl_read rfl rfl rfl (yl_load rfl rfl Try.underlying3 rfl ((Rd.of_sl 0 rfl).cell2 (at_some hk1) rfl)) ?_
        refine wl_read rfl rfl rfl (yl_add rfl rfl rfl (w64 (by omega) (by omega))) ?_
        refine wl_read rfl rfl rfl (yl_assign rfl rfl) ?_
        refine wl_nil ?_
        refine at_keep (Keep.cons 5 rfl (Keep.cons 6 rfl (Keep.cons 7 rfl (Keep.cons 8 rfl (Keep.cons 9 rfl (Keep.cons 10 rfl (Keep.cons 11 rfl (Keep.cons 26 rfl (Keep.cons 33 rfl (Keep.cons 41 rfl (Keep.cons 50 rfl Keep.nil))))))))))) ?_
        refine at_inBlock ?_
        refine at_inBlock ?_
        have h1 := h13_0
        have q1 : sumN (acc l) 1 (k + 1) = sumN (acc l) 1 k := by rw [sumN, if_neg (by omega), Int.add_zero]
        have q2 : sumN (acc l) 2 (k + 1) = sumN (acc l) 2 k + (at_ (acc l) k).amount := by rw [sumN, if_pos h1]
        have q3 : sumN (acc l) 3 (k + 1) = sumN (acc l) 3 k := by rw [sumN, if_neg (by omega), Int.add_zero]
        refine at_region ?_
        refine wl_read rfl rfl rfl (yl_move rfl rfl) ?_
        refine wl_read rfl rfl rfl (yl_add rfl rfl rfl (w64 (by omega) (by omega))) ?_
        refine wl_read rfl rfl rfl (yl_assign rfl rfl) ?_
        refine wl_nil ?_
        refine at_keep (Keep.cons 5 rfl (Keep.cons 6 rfl (Keep.cons 7 rfl (Keep.cons 8 rfl (Keep.cons 9 rfl (Keep.cons 10 rfl (Keep.cons 11 rfl (Keep.cons 26 rfl (Keep.cons 33 rfl (Keep.cons 41 rfl (Keep.cons 50 rfl Keep.nil))))))))))) ?_
        exact at_keep (L' := (fun (k : Nat) => [(5, .pointer (some ⟨g, 0, none⟩)), (6, .int .i64 (am total)), (7, .int .i64 (sumN (acc l) 1 k)), (8, .int .i64 (sumN (acc l) 2 k)), (9, .int .i64 (sumN (acc l) 3 k)), (10, .slice An (acc l).length cn), (11, .int .i64 (k : Int))]) (k + 1)) (Keep.consEq 5 rfl rfl (Keep.consEq 6 rfl rfl (Keep.consEq 7 rfl (by rw [q1]) (Keep.consEq 8 rfl (by rw [q2]) (Keep.consEq 9 rfl (by rw [q3]) (Keep.consEq 10 rfl rfl (Keep.consEq 11 rfl rfl Keep.nil))))))) (ih (k + 1) (by omega) (by omega))
      · intro h13_0
        refine wl_read rfl rfl rfl (yl_assign rfl rfl) ?_
        refine wl_nil ?_
        refine at_keep (Keep.cons 5 rfl (Keep.cons 6 rfl (Keep.cons 7 rfl (Keep.cons 8 rfl (Keep.cons 9 rfl (Keep.cons 10 rfl (Keep.cons 11 rfl (Keep.cons 26 rfl (Keep.cons 33 rfl (Keep.cons 41 rfl (Keep.cons 50 rfl Keep.nil))))))))))) ?_
        refine at_false rfl ?_
        refine at_region ?_
        refine wl_read rfl rfl rfl (yl_move rfl rfl) ?_
        refine wl_read rfl rfl rfl (yl_move rfl rfl) ?_
        refine wl_read rfl rfl rfl (yl_move rfl rfl) ?_
        refine wl_read rfl rfl rfl (yl_index rfl rfl rfl (Rd.of_sl 0 rfl) (at_some hk1) rfl rfl Try.underlying27 (by kernel_rfl) rfl) ?_
        refine wl_read rfl rfl rfl (yl_field rfl rfl Try.underlying33 rfl (by kernel_rfl) rfl) ?_
        refine wl_read rfl rfl rfl (yl_load rfl rfl Try.underlying3 rfl ((Rd.of_sl 0 rfl).cell2 (at_some hk1) rfl)) ?_
        refine wl_read rfl rfl rfl (yl_add rfl rfl rfl (w64 (by omega) (by omega))) ?_
        refine wl_read rfl rfl rfl (yl_assign rfl rfl) ?_
        refine wl_nil ?_
        refine at_keep (Keep.cons 5 rfl (Keep.cons 6 rfl (Keep.cons 7 rfl (Keep.cons 8 rfl (Keep.cons 9 rfl (Keep.cons 10 rfl (Keep.cons 11 rfl (Keep.cons 26 rfl (Keep.cons 33 rfl (Keep.cons 41 rfl (Keep.cons 50 rfl Keep.nil))))))))))) ?_
        refine at_inBlock ?_
        refine at_inBlock ?_
        have h1 : (at_ (acc l) k).kind = 3 := by have := hgd.valid k hk1; unfold okE at this; omega
        have q1 : sumN (acc l) 1 (k + 1) = sumN (acc l) 1 k := by rw [sumN, if_neg (by omega), Int.add_zero]
        have q2 : sumN (acc l) 2 (k + 1) = sumN (acc l) 2 k := by rw [sumN, if_neg (by omega), Int.add_zero]
        have q3 : sumN (acc l) 3 (k + 1) = sumN (acc l) 3 k + (at_ (acc l) k).amount := by rw [sumN, if_pos h1]
        refine at_region ?_
        refine wl_read rfl rfl rfl (yl_move rfl rfl) ?_
        refine wl_read rfl rfl rfl (yl_add rfl rfl rfl (w64 (by omega) (by omega))) ?_
        refine wl_read rfl rfl rfl (yl_assign rfl rfl) ?_
        refine wl_nil ?_
        refine at_keep (Keep.cons 5 rfl (Keep.cons 6 rfl (Keep.cons 7 rfl (Keep.cons 8 rfl (Keep.cons 9 rfl (Keep.cons 10 rfl (Keep.cons 11 rfl (Keep.cons 26 rfl (Keep.cons 33 rfl (Keep.cons 41 rfl (Keep.cons 50 rfl Keep.nil))))))))))) ?_
        exact at_keep (L' := (fun (k : Nat) => [(5, .pointer (some ⟨g, 0, none⟩)), (6, .int .i64 (am total)), (7, .int .i64 (sumN (acc l) 1 k)), (8, .int .i64 (sumN (acc l) 2 k)), (9, .int .i64 (sumN (acc l) 3 k)), (10, .slice An (acc l).length cn), (11, .int .i64 (k : Int))]) (k + 1)) (Keep.consEq 5 rfl rfl (Keep.consEq 6 rfl rfl (Keep.consEq 7 rfl (by rw [q1]) (Keep.consEq 8 rfl (by rw [q2]) (Keep.consEq 9 rfl (by rw [q3]) (Keep.consEq 10 rfl rfl (Keep.consEq 11 rfl rfl Keep.nil))))))) (ih (k + 1) (by omega) (by omega))
  · intro h7_3
    refine wl_nil ?_
    refine at_keep (Keep.cons 5 rfl (Keep.cons 6 rfl (Keep.cons 7 rfl (Keep.cons 8 rfl (Keep.cons 9 rfl (Keep.cons 10 rfl (Keep.cons 11 rfl (Keep.cons 26 rfl Keep.nil)))))))) ?_
    refine at_false rfl ?_
    refine at_exit rfl ?_
    refine at_seq ?_
    obtain rfl : k = (acc l).length := by omega
    have e1 : sumN (acc l) 1 (acc l).length = sumK (acc l) 1 := rfl
    have e2 : sumN (acc l) 2 (acc l).length = sumK (acc l) 2 := rfl
    have e3 : sumN (acc l) 3 (acc l).length = sumK (acc l) 3 := rfl
    rw [e1, e2, e3]
    refine at_region ?_
    refine wl_read rfl rfl rfl (yl_move rfl rfl) ?_
    refine wl_read rfl rfl rfl (yl_move rfl rfl) ?_
    refine wl_heap (fun _ hw => hw.front1) ?_
    refine wl_call rfl rfl rfl (en_call rfl rfl) (balance_ok _ g _ _ hbd _ ham) ?_
    rintro _ _ ⟨rfl, rfl⟩
    refine wl_read rfl rfl rfl (yl_move rfl rfl) ?_
    refine wl_read rfl rfl rfl (yl_extract rfl rfl rfl) ?_
    refine wl_read rfl rfl rfl (yl_extract rfl rfl rfl) ?_
    refine wl_read rfl rfl rfl (yl_assign rfl rfl) ?_
    refine wl_read rfl rfl rfl (yl_assign rfl rfl) ?_
    refine wl_nil ?_
    refine at_keep (Keep.cons 5 rfl (Keep.cons 6 rfl (Keep.cons 7 rfl (Keep.cons 8 rfl (Keep.cons 9 rfl (Keep.cons 10 rfl (Keep.cons 11 rfl (Keep.cons 12 rfl (Keep.cons 13 rfl (Keep.cons 26 rfl Keep.nil)))))))))) ?_
    refine at_seq ?_
    refine at_region ?_
    refine wl_call rfl rfl rfl (en_call rfl rfl) (awake_fn _ _) ?_
    rintro _ _ ⟨rfl, rfl⟩
    refine wl_read rfl rfl rfl (yl_move rfl rfl) ?_
    refine wl_read rfl rfl rfl (yl_move rfl rfl) ?_
    refine wl_call rfl rfl rfl (en_call rfl rfl) (sum_fn _ g _ _ 1 hgd (by omega)) ?_
    rintro _ _ ⟨rfl, rfl⟩
    refine wl_read rfl rfl rfl (yl_move rfl rfl) ?_
    refine wl_read rfl rfl rfl ((yp_eql rfl rfl rfl).1 rfl) ?_
    refine wl_read rfl rfl rfl (yl_pickT rfl rfl rfl) ?_
    refine wl_read rfl rfl rfl (yl_move rfl rfl) ?_
    refine wl_read rfl rfl rfl (yl_move rfl rfl) ?_
    refine wl_call rfl rfl rfl (en_call rfl rfl) (sum_fn _ g _ _ 2 hgd (by omega)) ?_
    rintro _ _ ⟨rfl, rfl⟩
    refine wl_read rfl rfl rfl (yl_move rfl rfl) ?_
    refine wl_read rfl rfl rfl ((yp_eql rfl rfl rfl).1 rfl) ?_
    refine wl_read rfl rfl rfl (yl_pickT rfl rfl rfl) ?_
    refine wl_read rfl rfl rfl (yl_move rfl rfl) ?_
    refine wl_read rfl rfl rfl (yl_move rfl rfl) ?_
    refine wl_call rfl rfl rfl (en_call rfl rfl) (sum_fn _ g _ _ 3 hgd (by omega)) ?_
    rintro _ _ ⟨rfl, rfl⟩
    refine wl_read rfl rfl rfl (yl_move rfl rfl) ?_
    refine wl_read rfl rfl rfl ((yp_eql rfl rfl rfl).1 rfl) ?_
    refine wl_read rfl rfl rfl (yl_pickT rfl rfl rfl) ?_
    refine wl_read rfl rfl rfl (yl_move rfl rfl) ?_
    refine wl_read rfl rfl rfl (yl_move rfl rfl) ?_
    refine wl_call rfl rfl rfl (en_call rfl rfl) (settled_fn _ g _ _) ?_
    rintro _ _ ⟨rfl, rfl⟩
    refine wl_read rfl rfl rfl (yl_move rfl rfl) ?_
    refine wl_read rfl rfl rfl (yl_move rfl rfl) ?_
    refine wl_read rfl rfl rfl (yl_add rfl rfl rfl (w64 (by omega) (by omega))) ?_
    refine wl_read rfl rfl rfl (yl_move rfl rfl) ?_
    refine wl_read rfl rfl rfl (yl_sub rfl rfl rfl (w64 (by omega) (by omega))) ?_
    refine wl_read rfl rfl rfl ((yp_eql rfl rfl rfl).1 (by omega)) ?_
    refine wl_read rfl rfl rfl (yl_pickT rfl rfl rfl) ?_
    refine wl_read rfl rfl rfl (yl_move rfl rfl) ?_
    refine wl_read rfl rfl rfl (yl_move rfl rfl) ?_
    refine wl_read rfl rfl rfl ((yp_eql rfl rfl rfl).1 rfl) ?_
    refine wl_read rfl rfl rfl (yl_pickT rfl rfl rfl) ?_
    refine wl_read rfl rfl rfl (yl_move rfl rfl) ?_
    refine wl_read rfl rfl rfl (yl_move rfl rfl) ?_
    refine wl_read rfl rfl rfl (yl_move rfl rfl) ?_
    refine wl_read rfl rfl rfl (yl_move rfl rfl) ?_
    refine wl_read rfl rfl rfl (yl_move rfl rfl) ?_
    refine wl_read rfl rfl rfl (yl_add rfl rfl rfl (w64 (by omega) (by omega))) ?_
    refine wl_read rfl rfl rfl (yl_move rfl rfl) ?_
    refine wl_read rfl rfl rfl (yl_sub rfl rfl rfl (w64 (by omega) (by omega))) ?_
    refine wl_read rfl rfl rfl (yl_sub rfl rfl rfl (w64 (by omega) (by omega))) ?_
    refine wl_read rfl rfl rfl ((yp_eql rfl rfl rfl).1 (by omega)) ?_
    refine wl_read rfl rfl rfl (yl_pickT rfl rfl rfl) ?_
    refine wl_read rfl rfl rfl (yl_assign rfl rfl) ?_
    refine wl_nil ?_
    refine at_keep (Keep.cons 4 rfl (Keep.cons 5 rfl (Keep.cons 6 rfl (Keep.cons 7 rfl (Keep.cons 8 rfl (Keep.cons 9 rfl (Keep.cons 10 rfl (Keep.cons 11 rfl (Keep.cons 12 rfl (Keep.cons 13 rfl (Keep.cons 26 rfl Keep.nil))))))))))) ?_
    refine at_retH (fun _ hw => hw.tail.tail) Try.func9 (res1 rfl rfl) ?_
    exact ⟨rfl, rfl⟩
theorem law10 (l l2 : List Raw) (A A9 : Option Addr) (c c9 : Nat) (b : World) (H : List Asr) (hR : Rd H A l) (hR2 : Rd H A9 l2) (ha : ∀ i, i < l.length → I64 (at_ l i).amount) (ha2 : ∀ i, i < l2.length → I64 (at_ l2 i).amount) : Fn Try.prog 10 [.slice A l.length c, .slice A9 l2.length c9] b H (fun v H' => v = .bool true ∧ H = H') := by
  have hgd := acc_good l
  have hln := acc_length l
  have hel := entries_length l2
  refine fn_of_at (by kernel_rfl) Try.func10 rfl Try.ntmps10 rfl rfl ?_
  refine at_seq ?_
  refine at_region ?_
  refine wl_read rfl rfl rfl (yl_assign rfl rfl) ?_
  refine wl_nil ?_
  refine at_keep (Keep.cons 0 rfl (Keep.cons 1 rfl (Keep.cons 4 rfl Keep.nil))) ?_
  refine at_seq ?_
  refine at_region ?_
  refine wl_call rfl rfl rfl (en_call rfl rfl) (new_fn _ _) ?_
  rintro _ _ ⟨g, rfl, rfl⟩
  refine wl_read rfl rfl rfl (yl_assign rfl rfl) ?_
  refine wl_nil ?_
  refine at_keep (Keep.cons 0 rfl (Keep.cons 1 rfl (Keep.cons 4 rfl (Keep.cons 5 rfl Keep.nil)))) ?_
  refine at_seq ?_
  refine at_region ?_
  refine wl_read rfl rfl rfl (yl_move rfl rfl) ?_
  refine wl_read rfl rfl rfl (yl_move rfl rfl) ?_
  refine wl_call rfl rfl rfl (en_call rfl rfl) (entraw_fn l A c _ _ (hR.cons _) ha) ?_
  rintro _ _ ⟨A1, c1, rfl, rfl⟩
  refine wl_heap (fun _ hw => hw.front1) ?_
  refine wl_call rfl rfl rfl (en_call rfl rfl) (play_acc l g _ _ _ _ (Rd.of_sl 0 rfl)) ?_
  rintro _ _ ⟨A2, c2, rfl, rfl⟩
  refine wl_nil ?_
  refine at_keep (Keep.cons 0 rfl (Keep.cons 1 rfl (Keep.cons 4 rfl (Keep.cons 5 rfl Keep.nil)))) ?_
  refine at_seq ?_
  refine at_region ?_
  refine wl_read rfl rfl rfl (yl_move rfl rfl) ?_
  refine wl_heap (fun _ hw => hw.front1) ?_
  refine wl_call rfl rfl rfl (en_call rfl rfl) (fork_fn _ g _ _ (by omega)) ?_
  rintro _ _ ⟨g2, rfl, rfl⟩
  refine wl_read rfl rfl rfl (yl_assign rfl rfl) ?_
  refine wl_nil ?_
  refine at_keep (Keep.cons 0 rfl (Keep.cons 1 rfl (Keep.cons 4 rfl (Keep.cons 5 rfl (Keep.cons 6 rfl Keep.nil))))) ?_
  refine at_seq ?_
  refine at_region ?_
  refine wl_read rfl rfl rfl (yl_move rfl rfl) ?_
  refine wl_heap (fun _ hw => hw.front1) ?_
  refine wl_call rfl rfl rfl (en_call rfl rfl) (entries_fn _ g _ _ (by omega)) ?_
  rintro _ _ ⟨An, cn, rfl, rfl⟩
  refine wl_read rfl rfl rfl (yl_assign rfl rfl) ?_
  refine wl_nil ?_
  refine at_keep (Keep.cons 0 rfl (Keep.cons 1 rfl (Keep.cons 4 rfl (Keep.cons 5 rfl (Keep.cons 6 rfl (Keep.cons 7 rfl Keep.nil)))))) ?_
  refine at_seq ?_
  refine at_region ?_
  refine wl_read rfl rfl rfl (yl_move rfl rfl) ?_
  refine wl_read rfl rfl rfl (yl_len rfl rfl Try.underlying27) ?_
  refine wl_read rfl rfl rfl (yl_move rfl rfl) ?_
  refine wl_heap (fun _ hw => hw.front1) ?_
  refine wl_call rfl rfl rfl (en_call rfl rfl) (settled_fn _ g _ _) ?_
  rintro _ _ ⟨rfl, rfl⟩
  refine wl_read rfl rfl rfl (yl_assign rfl rfl) ?_
  refine wl_read rfl rfl rfl (yl_assign rfl rfl) ?_
  refine wl_nil ?_
  refine at_keep (Keep.cons 0 rfl (Keep.cons 1 rfl (Keep.cons 4 rfl (Keep.cons 5 rfl (Keep.cons 6 rfl (Keep.cons 7 rfl (Keep.cons 8 rfl (Keep.cons 9 rfl Keep.nil)))))))) ?_
  refine at_seq ?_
  refine at_region ?_
  refine wl_read rfl rfl rfl (yl_move rfl rfl) ?_
  refine wl_read rfl rfl rfl (yl_move rfl rfl) ?_
  refine wl_call rfl rfl rfl (en_call rfl rfl) (entraw_fn l2 A9 c9 _ _ (((((hR2.cons _).cons _).cons _).cons _).cons _) ha2) ?_
  rintro _ _ ⟨A5, c5, rfl, rfl⟩
  refine wl_heap (fun _ hw => hw.front3) ?_
  refine wl_call rfl rfl rfl (en_call rfl rfl) (play_fn (acc l) (entries l2) g2 _ _ _ _ hgd (by omega) (Rd.of_sl 0 rfl)) ?_
  rintro _ _ ⟨A6, c6, rfl, rfl⟩
  refine wl_nil ?_
  refine at_keep (Keep.cons 0 rfl (Keep.cons 1 rfl (Keep.cons 4 rfl (Keep.cons 5 rfl (Keep.cons 6 rfl (Keep.cons 7 rfl (Keep.cons 8 rfl (Keep.cons 9 rfl Keep.nil)))))))) ?_
  refine at_seq ?_
  refine at_seq ?_
  refine at_heap (fun _ hw => hw.front5.tail) ?_
  refine at_heap (fun _ hw => hw.front5.tail) ?_
  refine at_heap (fun _ hw => hw.tail) ?_
  refine at_heap (fun _ hw => hw.front1.tail) ?_
  refine at_heap (fun _ hw => hw.tail) ?_
  refine at_heap (fun _ hw => hw.front1) ?_
  refine at_region ?_
  refine wl_read rfl rfl rfl (yl_assign rfl rfl) ?_
  refine wl_nil ?_
  refine at_keep (Keep.cons 0 rfl (Keep.cons 1 rfl (Keep.cons 4 rfl (Keep.cons 5 rfl (Keep.cons 6 rfl (Keep.cons 7 rfl (Keep.cons 8 rfl (Keep.cons 9 rfl (Keep.cons 10 rfl Keep.nil))))))))) ?_
  refine at_block ?_
  refine at_keep (L' := (fun (k : Nat) (xs : List Entry) => [(5, .pointer (some ⟨g, 0, none⟩)), (6, .pointer (some ⟨g2, 0, none⟩)), (7, .slice An xs.length cn), (8, .int .i64 ((acc l).length : Int)), (9, .int .i64 (stl (acc l))), (10, .int .i64 (k : Int))]) 0 (acc l)) (Keep.consEq 5 rfl rfl (Keep.consEq 6 rfl rfl (Keep.consEq 7 rfl rfl (Keep.consEq 8 rfl rfl (Keep.consEq 9 rfl rfl (Keep.consEq 10 rfl rfl Keep.nil)))))) ?_
  refine at_loop2 (fun (k : Nat) (xs : List Entry) => xs.length = (acc l).length) (fun (k : Nat) (xs : List Entry) => [(5, .pointer (some ⟨g, 0, none⟩)), (6, .pointer (some ⟨g2, 0, none⟩)), (7, .slice An xs.length cn), (8, .int .i64 ((acc l).length : Int)), (9, .int .i64 (stl (acc l))), (10, .int .i64 (k : Int))]) (fun (k : Nat) (xs : List Entry) => Sl An cn 33 xs :: Acc g (acc l) :: H) (fun (k : Nat) (xs : List Entry) => (acc l).length - k) 0 (acc l) rfl ?_
  intro k xs hI ih
  refine at_seq ?_
  refine at_seq ?_
  refine at_region ?_
  refine wl_read rfl rfl rfl (yl_move rfl rfl) ?_
  refine wl_read rfl rfl rfl (yl_move rfl rfl) ?_
  refine wl_read rfl rfl rfl (yl_len rfl rfl Try.underlying27) ?_
  refine wl_split rfl rfl rfl (yp_lss rfl rfl rfl) ?_ ?_
  · intro h8_3
    refine wl_nil ?_
    refine at_keep (Keep.cons 5 rfl (Keep.cons 6 rfl (Keep.cons 7 rfl (Keep.cons 8 rfl (Keep.cons 9 rfl (Keep.cons 10 rfl (Keep.cons 31 rfl Keep.nil))))))) ?_
    refine at_true rfl ?_
    refine at_skip ?_
    refine at_seq ?_
    refine at_block ?_
    have hk1 : k < xs.length := by omega
    refine at_region ?_
    refine wl_read rfl rfl rfl (yl_move rfl rfl) ?_
    refine wl_read rfl rfl rfl (yl_move rfl rfl) ?_
    refine wl_read rfl rfl rfl (yl_index rfl rfl rfl (Rd.of_sl 0 rfl) (at_some hk1) rfl rfl Try.underlying27 (by kernel_rfl) rfl) ?_
    refine wl_read rfl rfl rfl (yl_field rfl rfl Try.underlying33 rfl (by kernel_rfl) rfl) ?_
    refine wl_store rfl rfl (es_at0 (es_storeSl 0 { at_ xs k with amount := 7 } rfl rfl rfl rfl (by kernel_rfl) rfl (at_some hk1) rfl rfl)) ?_
    refine wl_nil ?_
    refine at_keep (Keep.cons 5 rfl (Keep.cons 6 rfl (Keep.cons 7 rfl (Keep.cons 8 rfl (Keep.cons 9 rfl (Keep.cons 10 rfl (Keep.cons 31 rfl Keep.nil))))))) ?_
    refine at_inBlock ?_
    refine at_region ?_
    refine wl_read rfl rfl rfl (yl_move rfl rfl) ?_
    refine wl_read rfl rfl rfl (yl_add rfl rfl rfl (w64 (by omega) (by omega))) ?_
    refine wl_read rfl rfl rfl (yl_assign rfl rfl) ?_
    refine wl_nil ?_
    refine at_keep (Keep.cons 5 rfl (Keep.cons 6 rfl (Keep.cons 7 rfl (Keep.cons 8 rfl (Keep.cons 9 rfl (Keep.cons 10 rfl (Keep.cons 31 rfl Keep.nil))))))) ?_
    exact at_keep (L' := (fun (k : Nat) (xs : List Entry) => [(5, .pointer (some ⟨g, 0, none⟩)), (6, .pointer (some ⟨g2, 0, none⟩)), (7, .slice An xs.length cn), (8, .int .i64 ((acc l).length : Int)), (9, .int .i64 (stl (acc l))), (10, .int .i64 (k : Int))]) (k + 1) (xs.set k { at_ xs k with amount := 7 })) (Keep.consEq 5 rfl rfl (Keep.consEq 6 rfl rfl (Keep.consEq 7 rfl (by rw [List.length_set]) (Keep.consEq 8 rfl rfl (Keep.consEq 9 rfl rfl (Keep.consEq 10 rfl rfl Keep.nil)))))) (ih (k + 1) (xs.set k { at_ xs k with amount := 7 }) (by rw [List.length_set]; exact hI) (by omega))
  · intro h8_3
    refine wl_nil ?_
    refine at_keep (Keep.cons 5 rfl (Keep.cons 6 rfl (Keep.cons 7 rfl (Keep.cons 8 rfl (Keep.cons 9 rfl (Keep.cons 10 rfl (Keep.cons 31 rfl Keep.nil))))))) ?_
    refine at_false rfl ?_
    refine at_exit rfl ?_
    refine at_seq ?_
    refine at_region ?_
    refine wl_call rfl rfl rfl (en_call rfl rfl) (awake_fn _ _) ?_
    rintro _ _ ⟨rfl, rfl⟩
    refine wl_read rfl rfl rfl (yl_move rfl rfl) ?_
    refine wl_read rfl rfl rfl (yl_move rfl rfl) ?_
    refine wl_read rfl rfl rfl (yl_nePtr rfl rfl rfl (by kernel_rfl) rfl) ?_
    refine wl_read rfl rfl rfl (yl_pickT rfl rfl rfl) ?_
    refine wl_read rfl rfl rfl (yl_move rfl rfl) ?_
    refine wl_read rfl rfl rfl (yl_move rfl rfl) ?_
    refine wl_heap (fun _ hw => hw.front1) ?_
    refine wl_call rfl rfl rfl (en_call rfl rfl) (settled_fn _ g _ _) ?_
    rintro _ _ ⟨rfl, rfl⟩
    refine wl_read rfl rfl rfl (yl_move rfl rfl) ?_
    refine wl_read rfl rfl rfl ((yp_eql rfl rfl rfl).1 rfl) ?_
    refine wl_read rfl rfl rfl (yl_pickT rfl rfl rfl) ?_
    refine wl_read rfl rfl rfl (yl_move rfl rfl) ?_
    refine wl_read rfl rfl rfl (yl_move rfl rfl) ?_
    refine wl_call rfl rfl rfl (en_call rfl rfl) (entries_fn _ g _ _ (by omega)) ?_
    rintro _ _ ⟨Ap, cp, rfl, rfl⟩
    refine wl_read rfl rfl rfl (yl_len rfl rfl Try.underlying27) ?_
    refine wl_read rfl rfl rfl (yl_move rfl rfl) ?_
    refine wl_read rfl rfl rfl ((yp_eql rfl rfl rfl).1 rfl) ?_
    refine wl_read rfl rfl rfl (yl_pickT rfl rfl rfl) ?_
    refine wl_read rfl rfl rfl (yl_move rfl rfl) ?_
    refine wl_read rfl rfl rfl (yl_move rfl rfl) ?_
    refine wl_heap (fun _ hw => hw.front1) ?_
    refine wl_call rfl rfl rfl (en_call rfl rfl) (fork_fn _ g _ _ (by omega)) ?_
    rintro _ _ ⟨g3, rfl, rfl⟩
    refine wl_call rfl rfl rfl (en_call rfl rfl) (entries_fn _ g3 _ _ (by omega)) ?_
    rintro _ _ ⟨A7, c7, rfl, rfl⟩
    refine wl_read rfl rfl rfl (yl_move rfl rfl) ?_
    refine wl_heap (fun _ hw => hw.front2) ?_
    refine wl_call rfl rfl rfl (en_call rfl rfl) (entries_fn _ g _ _ (by omega)) ?_
    rintro _ _ ⟨A8, c8, rfl, rfl⟩
    refine wl_call rfl rfl rfl (en_call rfl rfl) (same_fn (acc l) (acc l) _ _ _ _ _ _ (Rd.of_sl 2 rfl) (Rd.of_sl 0 rfl) (by omega)) ?_
    rintro _ _ ⟨rfl, rfl⟩
    rw [decide_eq_true rfl]
    refine wl_read rfl rfl rfl (yl_pickT rfl rfl rfl) ?_
    refine wl_read rfl rfl rfl (yl_assign rfl rfl) ?_
    refine wl_nil ?_
    refine at_keep (Keep.cons 4 rfl (Keep.cons 5 rfl (Keep.cons 6 rfl (Keep.cons 7 rfl (Keep.cons 8 rfl (Keep.cons 9 rfl (Keep.cons 10 rfl (Keep.cons 31 rfl Keep.nil)))))))) ?_
    refine at_retH (fun _ hw => hw.tail.tail.tail.tail.tail.tail) Try.func10 (res1 rfl rfl) ?_
    exact ⟨rfl, rfl⟩
theorem law11 (l : List Raw) (A : Option Addr) (c : Nat) (total : Int) (b : World) (H : List Asr) (hR : Rd H A l) (ha : ∀ i, i < l.length → I64 (at_ l i).amount) (ht : I64 total) : Fn Try.prog 11 [.slice A l.length c, .int .i64 total] b H (fun v H' => v = .bool true ∧ H = H') := by
  have hel := entries_length l
  refine fn_of_at (by kernel_rfl) Try.func11 rfl Try.ntmps11 rfl rfl ?_
  refine at_seq ?_
  refine at_region ?_
  refine wl_read rfl rfl rfl (yl_assign rfl rfl) ?_
  refine wl_nil ?_
  refine at_keep (Keep.cons 0 rfl (Keep.cons 1 rfl (Keep.cons 4 rfl Keep.nil))) ?_
  refine at_seq ?_
  refine at_region ?_
  refine wl_read rfl rfl rfl (yl_assign rfl rfl) ?_
  refine wl_nil ?_
  refine at_keep (Keep.cons 0 rfl (Keep.cons 1 rfl (Keep.cons 4 rfl (Keep.cons 5 rfl Keep.nil)))) ?_
  refine at_seq ?_
  refine at_region ?_
  refine wl_read rfl rfl rfl (yl_move rfl rfl) ?_
  refine wl_call rfl rfl rfl (en_call rfl rfl) (entraw_fn l A c _ _ hR ha) ?_
  rintro _ _ ⟨A1, c1, rfl, rfl⟩
  refine wl_read rfl rfl rfl (yl_assign rfl rfl) ?_
  refine wl_nil ?_
  refine at_keep (Keep.cons 0 rfl (Keep.cons 1 rfl (Keep.cons 4 rfl (Keep.cons 5 rfl (Keep.cons 6 rfl Keep.nil))))) ?_
  refine at_seq ?_
  refine at_seq ?_
  refine at_region ?_
  refine wl_read rfl rfl rfl (yl_assign rfl rfl) ?_
  refine wl_nil ?_
  refine at_keep (Keep.cons 0 rfl (Keep.cons 1 rfl (Keep.cons 4 rfl (Keep.cons 5 rfl (Keep.cons 6 rfl (Keep.cons 7 rfl Keep.nil)))))) ?_
  refine at_block ?_
  refine at_keep (L' := (fun (k : Nat) => [(1, .int .i64 total), (5, .pointer none), (6, .slice A1 (entries l).length c1), (7, .int .i64 (k : Int))]) 0) (Keep.consEq 1 rfl rfl (Keep.consEq 5 rfl rfl (Keep.consEq 6 rfl rfl (Keep.consEq 7 rfl rfl Keep.nil)))) ?_
  refine at_loop1 (fun (k : Nat) => True) (fun (k : Nat) => [(1, .int .i64 total), (5, .pointer none), (6, .slice A1 (entries l).length c1), (7, .int .i64 (k : Int))]) (fun (k : Nat) => Sl A1 c1 33 (entries l) :: H) (fun (k : Nat) => (entries l).length - k) 0 trivial ?_
  intro k hI ih
  refine at_seq ?_
  refine at_seq ?_
  refine at_region ?_
  refine wl_read rfl rfl rfl (yl_move rfl rfl) ?_
  refine wl_read rfl rfl rfl (yl_move rfl rfl) ?_
  refine wl_read rfl rfl rfl (yl_len rfl rfl Try.underlying27) ?_
  refine wl_split rfl rfl rfl (yp_lss rfl rfl rfl) ?_ ?_
  · intro h4_3
    refine wl_nil ?_
    refine at_keep (Keep.cons 1 rfl (Keep.cons 5 rfl (Keep.cons 6 rfl (Keep.cons 7 rfl (Keep.cons 15 rfl Keep.nil))))) ?_
    refine at_true rfl ?_
    refine at_skip ?_
    refine at_seq ?_
    refine at_block ?_
    refine at_seq ?_
    have hk1 : k < (entries l).length := by omega
    refine at_draw0 (.fl 0 (.fl 1 (.fl 2 (.fl 3 (.fl 4 (.ef 5 (.fl 6 (.fl 7 (.fl 8 (.fl 9 (.fl 10 (.fl 11 (.fl 12 (.fl 13 (.fl 14 (.fl 15 (.fl 16 (.fl 17 (.fl 18 (.fl 19 (.fl 20 (.fl 21 (.fl 22 (.fl 23 (.ef 24 (.fl 25 .nil)))))))))))))))))))))))))) (by kernel_rfl) (by kernel_rfl) ?_
    refine wt_read rfl rfl rfl rfl (yl_move rfl rfl) ?_
    refine wt_read rfl rfl rfl rfl (yl_move rfl rfl) ?_
    refine wt_read rfl rfl rfl rfl (yl_move rfl rfl) ?_
    refine wt_read rfl rfl rfl rfl (yl_index rfl rfl rfl (Rd.of_sl 0 rfl) (at_some hk1) rfl rfl Try.underlying27 (by kernel_rfl) rfl) ?_
    refine wt_read rfl rfl rfl rfl (yl_loadRow rfl rfl (Rd.of_sl 0 rfl) (at_some hk1) Try.underlying33 rfl (by kernel_rfl) rfl) ?_
    refine wt_call rfl rfl rfl rfl (en_call rfl rfl) (post_nil (at_ (entries l) k) _ _) ?_
    rintro _ _ ⟨rfl, rfl⟩
    refine ⟨⟨[], rfl⟩, ?_⟩
    refine wt_read rfl rfl rfl rfl ((yp_neq rfl rfl rfl).2 (by simp)) ?_
    refine wt_read rfl rfl rfl rfl (yl_move rfl rfl) ?_
    refine wt_read rfl rfl rfl rfl (yl_move rfl rfl) ?_
    refine wt_read rfl rfl rfl rfl (yl_move rfl rfl) ?_
    refine wt_read rfl rfl rfl rfl (yl_move rfl rfl) ?_
    refine wt_read rfl rfl rfl rfl (yl_index rfl rfl rfl (Rd.of_sl 0 rfl) (at_some hk1) rfl rfl Try.underlying27 (by kernel_rfl) rfl) ?_
    refine wt_read rfl rfl rfl rfl (yl_field rfl rfl Try.underlying33 rfl (by kernel_rfl) rfl) ?_
    refine wt_read rfl rfl rfl rfl (yl_load rfl rfl Try.underlying3 rfl ((Rd.of_sl 0 rfl).cell2 (at_some hk1) rfl)) ?_
    refine wt_read rfl rfl rfl rfl (yl_move rfl rfl) ?_
    refine wt_read rfl rfl rfl rfl (yl_move rfl rfl) ?_
    refine wt_read rfl rfl rfl rfl (yl_index rfl rfl rfl (Rd.of_sl 0 rfl) (at_some hk1) rfl rfl Try.underlying27 (by kernel_rfl) rfl) ?_
    refine wt_read rfl rfl rfl rfl (yl_field rfl rfl Try.underlying33 rfl (by kernel_rfl) rfl) ?_
    refine wt_read rfl rfl rfl rfl (yl_load rfl rfl Try.underlying3 rfl ((Rd.of_sl 0 rfl).cell2 (at_some hk1) rfl)) ?_
    refine wt_read rfl rfl rfl rfl (yl_move rfl rfl) ?_
    refine wt_read rfl rfl rfl rfl (yl_move rfl rfl) ?_
    refine wt_read rfl rfl rfl rfl (yl_index rfl rfl rfl (Rd.of_sl 0 rfl) (at_some hk1) rfl rfl Try.underlying27 (by kernel_rfl) rfl) ?_
    refine wt_read rfl rfl rfl rfl (yl_field rfl rfl Try.underlying33 rfl (by kernel_rfl) rfl) ?_
    refine wt_read rfl rfl rfl rfl (yl_load rfl rfl Try.underlying3 rfl ((Rd.of_sl 0 rfl).cell2 (at_some hk1) rfl)) ?_
    refine wt_call rfl rfl rfl rfl (en_call rfl rfl) (has_nil _ _ _ _ _) ?_
    rintro _ _ ⟨rfl, rfl⟩
    refine ⟨⟨[], rfl⟩, ?_⟩
    refine wt_read rfl rfl rfl rfl (yl_pickF rfl rfl rfl) ?_
    refine wt_nil ?_
    refine at_keep (Keep.cons 1 rfl (Keep.cons 5 rfl (Keep.cons 6 rfl (Keep.cons 7 rfl (Keep.cons 15 rfl (Keep.cons 43 rfl Keep.nil)))))) ?_
    refine at_false rfl ?_
    refine at_skip ?_
    refine at_inBlock ?_
    refine at_region ?_
    refine wl_read rfl rfl rfl (yl_move rfl rfl) ?_
    refine wl_read rfl rfl rfl (yl_add rfl rfl rfl (w64 (by omega) (by omega))) ?_
    refine wl_read rfl rfl rfl (yl_assign rfl rfl) ?_
    refine wl_nil ?_
    refine at_keep (Keep.cons 1 rfl (Keep.cons 5 rfl (Keep.cons 6 rfl (Keep.cons 7 rfl (Keep.cons 15 rfl (Keep.cons 43 rfl Keep.nil)))))) ?_
    exact at_keep (L' := (fun (k : Nat) => [(1, .int .i64 total), (5, .pointer none), (6, .slice A1 (entries l).length c1), (7, .int .i64 (k : Int))]) (k + 1)) (Keep.consEq 1 rfl rfl (Keep.consEq 5 rfl rfl (Keep.consEq 6 rfl rfl (Keep.consEq 7 rfl rfl Keep.nil)))) (ih (k + 1) trivial (by omega))
  · intro h4_3
    refine wl_nil ?_
    refine at_keep (Keep.cons 1 rfl (Keep.cons 5 rfl (Keep.cons 6 rfl (Keep.cons 7 rfl (Keep.cons 15 rfl Keep.nil))))) ?_
    refine at_false rfl ?_
    refine at_exit rfl ?_
    refine at_seq ?_
    refine at_region ?_
    refine wl_read rfl rfl rfl (yl_move rfl rfl) ?_
    refine wl_read rfl rfl rfl (yl_move rfl rfl) ?_
    refine wl_call rfl rfl rfl (en_call rfl rfl) (amount_fn _ _ _ ht) ?_
    rintro _ _ ⟨rfl, rfl⟩
    refine wl_call rfl rfl rfl (en_call rfl rfl) (balance_nil _ _ _) ?_
    rintro _ _ ⟨rfl, rfl⟩
    refine wl_read rfl rfl rfl (yl_move rfl rfl) ?_
    refine wl_read rfl rfl rfl (yl_extract rfl rfl rfl) ?_
    refine wl_read rfl rfl rfl (yl_extract rfl rfl rfl) ?_
    refine wl_read rfl rfl rfl (yl_assign rfl rfl) ?_
    refine wl_read rfl rfl rfl (yl_assign rfl rfl) ?_
    refine wl_nil ?_
    refine at_keep (Keep.cons 1 rfl (Keep.cons 5 rfl (Keep.cons 6 rfl (Keep.cons 7 rfl (Keep.cons 8 rfl (Keep.cons 9 rfl (Keep.cons 15 rfl Keep.nil))))))) ?_
    refine at_seq ?_
    refine at_region ?_
    refine wl_call rfl rfl rfl (en_call rfl rfl) (awake_fn _ _) ?_
    rintro _ _ ⟨rfl, rfl⟩
    refine wl_read rfl rfl rfl (yl_move rfl rfl) ?_
    refine wl_read rfl rfl rfl (yl_move rfl rfl) ?_
    refine wl_read rfl rfl rfl ((yp_eql rfl rfl rfl).1 rfl) ?_
    refine wl_read rfl rfl rfl (yl_pickT rfl rfl rfl) ?_
    refine wl_read rfl rfl rfl (yl_move rfl rfl) ?_
    refine wl_read rfl rfl rfl (yl_move rfl rfl) ?_
    refine wl_read rfl rfl rfl ((yp_eql rfl rfl rfl).1 rfl) ?_
    refine wl_read rfl rfl rfl (yl_pickT rfl rfl rfl) ?_
    refine wl_read rfl rfl rfl (yl_move rfl rfl) ?_
    refine wl_read rfl rfl rfl (yl_move rfl rfl) ?_
    refine wl_call rfl rfl rfl (en_call rfl rfl) (settled_nil _ _) ?_
    rintro _ _ ⟨rfl, rfl⟩
    refine wl_read rfl rfl rfl ((yp_eql rfl rfl rfl).1 rfl) ?_
    refine wl_read rfl rfl rfl (yl_pickT rfl rfl rfl) ?_
    refine wl_read rfl rfl rfl (yl_move rfl rfl) ?_
    refine wl_read rfl rfl rfl (yl_move rfl rfl) ?_
    refine wl_call rfl rfl rfl (en_call rfl rfl) (sum_nil _ _ _) ?_
    rintro _ _ ⟨rfl, rfl⟩
    refine wl_read rfl rfl rfl ((yp_eql rfl rfl rfl).1 rfl) ?_
    refine wl_read rfl rfl rfl (yl_pickT rfl rfl rfl) ?_
    refine wl_read rfl rfl rfl (yl_move rfl rfl) ?_
    refine wl_read rfl rfl rfl (yl_move rfl rfl) ?_
    refine wl_call rfl rfl rfl (en_call rfl rfl) (entries_nil _ _) ?_
    rintro _ _ ⟨rfl, rfl⟩
    refine wl_read rfl rfl rfl (yl_len rfl rfl Try.underlying27) ?_
    refine wl_read rfl rfl rfl ((yp_eql rfl rfl rfl).1 rfl) ?_
    refine wl_read rfl rfl rfl (yl_pickT rfl rfl rfl) ?_
    refine wl_read rfl rfl rfl (yl_move rfl rfl) ?_
    refine wl_read rfl rfl rfl (yl_move rfl rfl) ?_
    refine wl_call rfl rfl rfl (en_call rfl rfl) (fork_nil _ _) ?_
    rintro _ _ ⟨rfl, rfl⟩
    refine wl_read rfl rfl rfl (yl_eqPtr rfl rfl rfl (by kernel_rfl) rfl) ?_
    refine wl_read rfl rfl rfl (yl_pickT rfl rfl rfl) ?_
    refine wl_read rfl rfl rfl (yl_assign rfl rfl) ?_
    refine wl_nil ?_
    refine at_keep (Keep.cons 1 rfl (Keep.cons 4 rfl (Keep.cons 5 rfl (Keep.cons 6 rfl (Keep.cons 7 rfl (Keep.cons 8 rfl (Keep.cons 9 rfl (Keep.cons 15 rfl Keep.nil)))))))) ?_
    refine at_retH (fun _ hw => hw.tail) Try.func11 (res1 rfl rfl) ?_
    exact ⟨rfl, rfl⟩
end Go.Proofs.Ytplaoddmgfcbcaa

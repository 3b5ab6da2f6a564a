/- Walks of the reference of an account, and of Same. -/
import Derived.Test.YtplaoddmgfcbcaaB
namespace Go.Proofs.Ytplaoddmgfcbcaa
open Go

theorem rsum_at (es : List Entry) (g : Nat) (b : World) (H : List Asr) (kd : Int) (hg : Good es) (hl : es.length ≤ 1000) {A : Option Addr} {c : Nat} (hB : CellAt H ⟨g, 0, none⟩ (.slice A es.length c)) (hR : Rd H A es) : Fn Try.prog 34 [.pointer (some ⟨g, 0, none⟩), .int .i64 kd] b H (fun v H' => v = .int .i64 (sumK es kd) ∧ H = H') := by
  refine fn_of_at (by kernel_rfl) Try.func34 rfl Try.ntmps34 rfl rfl ?_
  refine at_seq ?_
  refine at_region ?_
  refine wl_read rfl rfl rfl (yl_assign rfl rfl) ?_
  refine wl_nil ?_
  refine at_keep (Keep.cons 0 rfl (Keep.cons 1 rfl (Keep.cons 4 rfl Keep.nil))) ?_
  refine at_seq ?_
  refine at_region ?_
  refine wl_read rfl rfl rfl (yl_assign rfl rfl) ?_
  refine wl_nil ?_
  refine at_keep (Keep.cons 0 rfl (Keep.cons 1 rfl (Keep.cons 4 rfl (Keep.cons 5 rfl Keep.nil)))) ?_
  refine at_seq ?_
  refine at_seq ?_
  refine at_region ?_
  refine wl_read rfl rfl rfl (yl_assign rfl rfl) ?_
  refine wl_nil ?_
  refine at_keep (Keep.cons 0 rfl (Keep.cons 1 rfl (Keep.cons 4 rfl (Keep.cons 5 rfl (Keep.cons 6 rfl Keep.nil))))) ?_
  refine at_block ?_
  refine at_keep (L' := (fun (k : Nat) => [(0, .pointer (some ⟨g, 0, none⟩)), (1, .int .i64 kd), (5, .int .i64 (sumN es kd k)), (6, .int .i64 (k : Int))]) 0) (Keep.consEq 0 rfl rfl (Keep.consEq 1 rfl rfl (Keep.consEq 5 rfl rfl (Keep.consEq 6 rfl rfl Keep.nil)))) ?_
  refine at_loop1 (fun (k : Nat) => k ≤ es.length) (fun (k : Nat) => [(0, .pointer (some ⟨g, 0, none⟩)), (1, .int .i64 kd), (5, .int .i64 (sumN es kd k)), (6, .int .i64 (k : Int))]) (fun (k : Nat) => H) (fun (k : Nat) => es.length - k) 0 (by omega) ?_
  intro k hI ih
  have hsb := sumN_bd hg kd k (by omega)
  refine at_seq ?_
  refine at_seq ?_
  refine at_region ?_
  refine wl_read rfl rfl rfl (yl_move rfl rfl) ?_
  refine wl_read rfl rfl rfl (yl_move rfl rfl) ?_
  refine wl_read rfl rfl rfl (yl_nilCheck rfl rfl) ?_
  refine wl_read rfl rfl rfl (yl_fieldB rfl rfl Try.underlying45 rfl (by kernel_rfl) rfl) ?_
  refine wl_read rfl rfl rfl (yl_load rfl rfl Try.underlying27 rfl hB) ?_
  refine wl_read rfl rfl rfl (yl_len rfl rfl Try.underlying27) ?_
  refine wl_split rfl rfl rfl (yp_lss rfl rfl rfl) ?_ ?_
  · intro h3_6
    refine wl_nil ?_
    refine at_keep (Keep.cons 0 rfl (Keep.cons 1 rfl (Keep.cons 5 rfl (Keep.cons 6 rfl (Keep.cons 13 rfl Keep.nil))))) ?_
    refine at_true rfl ?_
    refine at_skip ?_
    refine at_seq ?_
    refine at_block ?_
    refine at_seq ?_
    have hk1 : k < es.length := by omega
    have hav := (hg.valid k hk1).1
    refine at_region ?_
    refine wl_read rfl rfl rfl (yl_move rfl rfl) ?_
    refine wl_read rfl rfl rfl (yl_nilCheck rfl rfl) ?_
    refine wl_read rfl rfl rfl (yl_fieldB rfl rfl Try.underlying45 rfl (by kernel_rfl) rfl) ?_
    refine wl_read rfl rfl rfl (yl_load rfl rfl Try.underlying27 rfl hB) ?_
    refine wl_read rfl rfl rfl (yl_move rfl rfl) ?_
    refine wl_read rfl rfl rfl (yl_index rfl rfl rfl hR (at_some hk1) rfl rfl Try.underlying27 (by kernel_rfl) rfl) ?_
    refine wl_read rfl rfl rfl (yl_field rfl rfl Try.underlying33 rfl (by kernel_rfl) rfl) ?_
    refine wl_read rfl rfl rfl (yl_load rfl rfl Try.underlying3 rfl (hR.cell2 (at_some hk1) rfl)) ?_
    refine wl_read rfl rfl rfl (yl_move rfl rfl) ?_
    refine wl_split rfl rfl rfl (yp_eql rfl rfl rfl) ?_ ?_
    · intro h5_9
      refine wl_nil ?_
      refine at_keep (Keep.cons 0 rfl (Keep.cons 1 rfl (Keep.cons 5 rfl (Keep.cons 6 rfl (Keep.cons 13 rfl (Keep.cons 25 rfl Keep.nil)))))) ?_
      refine at_true rfl ?_
      refine at_region ?_
      refine wl_read rfl rfl rfl (yl_move rfl rfl) ?_
      refine wl_read rfl rfl rfl (yl_move rfl rfl) ?_
      refine wl_read rfl rfl rfl (yl_nilCheck rfl rfl) ?_
      refine wl_read rfl rfl rfl (yl_fieldB rfl rfl Try.underlying45 rfl (by kernel_rfl) rfl) ?_
      refine wl_read rfl rfl rfl (yl_load rfl rfl Try.underlying27 rfl hB) ?_
      refine wl_read rfl rfl rfl (yl_move rfl rfl) ?_
      refine wl_read rfl rfl rfl (yl_index rfl rfl rfl hR (at_some hk1) rfl rfl Try.underlying27 (by kernel_rfl) rfl) ?_
      refine wl_read rfl rfl rfl (yl_field rfl rfl Try.underlying33 rfl (by kernel_rfl) rfl) ?_
      refine wl_read rfl rfl rfl (yl_load rfl rfl Try.underlying3 rfl (hR.cell2 (at_some hk1) rfl)) ?_
      refine wl_read rfl rfl rfl (yl_add rfl rfl rfl (w64 (by omega) (by omega))) ?_
      refine wl_read rfl rfl rfl (yl_assign rfl rfl) ?_
      refine wl_nil ?_
      refine at_keep (Keep.cons 0 rfl (Keep.cons 1 rfl (Keep.cons 5 rfl (Keep.cons 6 rfl (Keep.cons 13 rfl (Keep.cons 25 rfl Keep.nil)))))) ?_
      refine at_inBlock ?_
      have hs : sumN es kd (k + 1) = sumN es kd k + (at_ es k).amount := by rw [sumN, if_pos h5_9]
      refine at_region ?_
      refine wl_read rfl rfl rfl (yl_move rfl rfl) ?_
      refine wl_read rfl rfl rfl (yl_add rfl rfl rfl (w64 (by omega) (by omega))) ?_
      refine wl_read rfl rfl rfl (yl_assign rfl rfl) ?_
      refine wl_nil ?_
      refine at_keep (Keep.cons 0 rfl (Keep.cons 1 rfl (Keep.cons 5 rfl (Keep.cons 6 rfl (Keep.cons 13 rfl (Keep.cons 25 rfl Keep.nil)))))) ?_
      exact at_keep (L' := (fun (k : Nat) => [(0, .pointer (some ⟨g, 0, none⟩)), (1, .int .i64 kd), (5, .int .i64 (sumN es kd k)), (6, .int .i64 (k : Int))]) (k + 1)) (Keep.consEq 0 rfl rfl (Keep.consEq 1 rfl rfl (Keep.consEq 5 rfl (by rw [hs]) (Keep.consEq 6 rfl rfl Keep.nil)))) (ih (k + 1) (by omega) (by omega))
    · intro h5_9
      refine wl_nil ?_
      refine at_keep (Keep.cons 0 rfl (Keep.cons 1 rfl (Keep.cons 5 rfl (Keep.cons 6 rfl (Keep.cons 13 rfl (Keep.cons 25 rfl Keep.nil)))))) ?_
      refine at_false rfl ?_
      refine at_skip ?_
      refine at_inBlock ?_
      have hs : sumN es kd (k + 1) = sumN es kd k := by rw [sumN, if_neg h5_9, Int.add_zero]
      refine at_region ?_
      refine wl_read rfl rfl rfl (yl_move rfl rfl) ?_
      refine wl_read rfl rfl rfl (yl_add rfl rfl rfl (w64 (by omega) (by omega))) ?_
      refine wl_read rfl rfl rfl (yl_assign rfl rfl) ?_
      refine wl_nil ?_
      refine at_keep (Keep.cons 0 rfl (Keep.cons 1 rfl (Keep.cons 5 rfl (Keep.cons 6 rfl (Keep.cons 13 rfl (Keep.cons 25 rfl Keep.nil)))))) ?_
      exact at_keep (L' := (fun (k : Nat) => [(0, .pointer (some ⟨g, 0, none⟩)), (1, .int .i64 kd), (5, .int .i64 (sumN es kd k)), (6, .int .i64 (k : Int))]) (k + 1)) (Keep.consEq 0 rfl rfl (Keep.consEq 1 rfl rfl (Keep.consEq 5 rfl (by rw [hs]) (Keep.consEq 6 rfl rfl Keep.nil)))) (ih (k + 1) (by omega) (by omega))
  · intro h3_6
    refine wl_nil ?_
    refine at_keep (Keep.cons 0 rfl (Keep.cons 1 rfl (Keep.cons 5 rfl (Keep.cons 6 rfl (Keep.cons 13 rfl Keep.nil))))) ?_
    refine at_false rfl ?_
    refine at_exit rfl ?_
    refine at_seq ?_
    obtain rfl : k = es.length := by omega
    refine at_region ?_
    refine wl_read rfl rfl rfl (yl_move rfl rfl) ?_
    refine wl_read rfl rfl rfl (yl_assign rfl rfl) ?_
    refine wl_nil ?_
    refine at_keep (Keep.cons 0 rfl (Keep.cons 1 rfl (Keep.cons 4 rfl (Keep.cons 5 rfl (Keep.cons 6 rfl (Keep.cons 13 rfl Keep.nil)))))) ?_
    refine at_ret Try.func34 (res1 rfl rfl) ?_
    exact ⟨rfl, rfl⟩
theorem rsettled_at (es : List Entry) (g : Nat) (b : World) (H : List Asr) (hg : Good es) (hl : es.length ≤ 1000) {A : Option Addr} {c : Nat} (hB : CellAt H ⟨g, 0, none⟩ (.slice A es.length c)) (hR : Rd H A es) : Fn Try.prog 33 [.pointer (some ⟨g, 0, none⟩)] b H (fun v H' => v = .int .i64 (stl es) ∧ H = H') := by
  have h1 := sumK_bd hg 1
  have h2 := sumK_bd hg 2
  have h3 := sumK_bd hg 3
  refine fn_of_at (by kernel_rfl) Try.func33 rfl Try.ntmps33 rfl rfl ?_
  refine at_seq ?_
  refine at_region ?_
  refine wl_read rfl rfl rfl (yl_assign rfl rfl) ?_
  refine wl_nil ?_
  refine at_keep (Keep.cons 0 rfl (Keep.cons 2 rfl Keep.nil)) ?_
  refine at_seq ?_
  refine at_region ?_
  refine wl_read rfl rfl rfl (yl_move rfl rfl) ?_
  refine wl_call rfl rfl rfl (en_call rfl rfl) (rsum_at es g _ _ 1 hg hl hB hR) ?_
  rintro _ _ ⟨rfl, rfl⟩
  refine wl_read rfl rfl rfl (yl_move rfl rfl) ?_
  refine wl_call rfl rfl rfl (en_call rfl rfl) (rsum_at es g _ _ 2 hg hl hB hR) ?_
  rintro _ _ ⟨rfl, rfl⟩
  refine wl_read rfl rfl rfl (yl_add rfl rfl rfl (w64 (by omega) (by omega))) ?_
  refine wl_read rfl rfl rfl (yl_move rfl rfl) ?_
  refine wl_call rfl rfl rfl (en_call rfl rfl) (rsum_at es g _ _ 3 hg hl hB hR) ?_
  rintro _ _ ⟨rfl, rfl⟩
  refine wl_read rfl rfl rfl (yl_sub rfl rfl rfl (w64 (by omega) (by omega))) ?_
  refine wl_read rfl rfl rfl (yl_assign rfl rfl) ?_
  refine wl_nil ?_
  refine at_keep (Keep.cons 0 rfl (Keep.cons 2 rfl Keep.nil)) ?_
  refine at_ret Try.func33 (res1 rfl rfl) ?_
  exact ⟨rfl, rfl⟩
theorem rsum_fn (es : List Entry) (g : Nat) (b : World) (H : List Asr) (kd : Int) (hg : Good es) (hl : es.length ≤ 1000) : Fn Try.prog 34 [.pointer (some ⟨g, 0, none⟩), .int .i64 kd] b (RAcc g es :: H) (fun v H' => v = .int .i64 (sumK es kd) ∧ RAcc g es :: H = H') :=
  RAcc.fn fun A c => (rsum_at es g _ _ kd hg hl (CellAt.bk 0 rfl rfl) (Rd.of_sl 1 rfl)).heap (by rintro v _ ⟨h1, rfl⟩; exact ⟨_, ⟨h1, rfl⟩, fun _ hw => RAcc.closes hw⟩)

theorem rsettled_fn (es : List Entry) (g : Nat) (b : World) (H : List Asr) (hg : Good es) (hl : es.length ≤ 1000) : Fn Try.prog 33 [.pointer (some ⟨g, 0, none⟩)] b (RAcc g es :: H) (fun v H' => v = .int .i64 (stl es) ∧ RAcc g es :: H = H') :=
  RAcc.fn fun A c => (rsettled_at es g _ _ hg hl (CellAt.bk 0 rfl rfl) (Rd.of_sl 1 rfl)).heap (by rintro v _ ⟨h1, rfl⟩; exact ⟨_, ⟨h1, rfl⟩, fun _ hw => RAcc.closes hw⟩)

theorem rhas_at (es : List Entry) (g : Nat) (b : World) (H : List Asr) (k0 : Key) (hl : es.length ≤ 1000) {A : Option Addr} {c : Nat} (hB : CellAt H ⟨g, 0, none⟩ (.slice A es.length c)) (hR : Rd H A es) : Fn Try.prog 32 [.pointer (some ⟨g, 0, none⟩), .int .i64 k0.1, .int .i64 k0.2.1, .int .i64 k0.2.2] b H (fun v H' => v = .bool (decide (0 < cnt es k0)) ∧ H = H') := by
  refine fn_of_at (by kernel_rfl) Try.func32 rfl Try.ntmps32 rfl rfl ?_
  refine at_seq ?_
  refine at_region ?_
  refine wl_read rfl rfl rfl (yl_assign rfl rfl) ?_
  refine wl_nil ?_
  refine at_keep (Keep.cons 0 rfl (Keep.cons 1 rfl (Keep.cons 2 rfl (Keep.cons 3 rfl (Keep.cons 8 rfl Keep.nil))))) ?_
  refine at_seq ?_
  refine at_seq ?_
  refine at_region ?_
  refine wl_read rfl rfl rfl (yl_assign rfl rfl) ?_
  refine wl_nil ?_
  refine at_keep (Keep.cons 0 rfl (Keep.cons 1 rfl (Keep.cons 2 rfl (Keep.cons 3 rfl (Keep.cons 8 rfl (Keep.cons 9 rfl Keep.nil)))))) ?_
  refine at_block ?_
  refine at_keep (L' := (fun (k : Nat) => [(0, .pointer (some ⟨g, 0, none⟩)), (1, .int .i64 k0.1), (2, .int .i64 k0.2.1), (3, .int .i64 k0.2.2), (9, .int .i64 (k : Int))]) 0) (Keep.consEq 0 rfl rfl (Keep.consEq 1 rfl rfl (Keep.consEq 2 rfl rfl (Keep.consEq 3 rfl rfl (Keep.consEq 9 rfl rfl Keep.nil))))) ?_
  refine at_loop1 (fun (k : Nat) => k ≤ es.length ∧ ∀ i, i < k → (at_ es i).key ≠ k0) (fun (k : Nat) => [(0, .pointer (some ⟨g, 0, none⟩)), (1, .int .i64 k0.1), (2, .int .i64 k0.2.1), (3, .int .i64 k0.2.2), (9, .int .i64 (k : Int))]) (fun (k : Nat) => H) (fun (k : Nat) => es.length - k) 0 ⟨by omega, fun i hi => absurd hi (by omega)⟩ ?_
  intro k hI ih
  obtain ⟨hI1, hI2⟩ := hI
  refine at_seq ?_
  refine at_seq ?_
  refine at_region ?_
  refine wl_read rfl rfl rfl (yl_move rfl rfl) ?_
  refine wl_read rfl rfl rfl (yl_move rfl rfl) ?_
  refine wl_read rfl rfl rfl (yl_nilCheck rfl rfl) ?_
  refine wl_read rfl rfl rfl (yl_fieldB rfl rfl Try.underlying45 rfl (by kernel_rfl) rfl) ?_
  refine wl_read rfl rfl rfl (yl_load rfl rfl Try.underlying27 rfl hB) ?_
  refine wl_read rfl rfl rfl (yl_len rfl rfl Try.underlying27) ?_
  refine wl_split rfl rfl rfl (yp_lss rfl rfl rfl) ?_ ?_
  · intro h2_6
    refine wl_nil ?_
    refine at_keep (Keep.cons 0 rfl (Keep.cons 1 rfl (Keep.cons 2 rfl (Keep.cons 3 rfl (Keep.cons 9 rfl (Keep.cons 16 rfl Keep.nil)))))) ?_
    refine at_true rfl ?_
    refine at_skip ?_
    refine at_seq ?_
    refine at_block ?_
    refine at_seq ?_
    have hk1 : k < es.length := by omega
    refine at_region ?_
    refine wl_read rfl rfl rfl (yl_move rfl rfl) ?_
    refine wl_read rfl rfl rfl (yl_nilCheck rfl rfl) ?_
    refine wl_read rfl rfl rfl (yl_fieldB rfl rfl Try.underlying45 rfl (by kernel_rfl) rfl) ?_
    refine wl_read rfl rfl rfl (yl_load rfl rfl Try.underlying27 rfl hB) ?_
    refine wl_read rfl rfl rfl (yl_move rfl rfl) ?_
    refine wl_read rfl rfl rfl (yl_index rfl rfl rfl hR (at_some hk1) rfl rfl Try.underlying27 (by kernel_rfl) rfl) ?_
    refine wl_read rfl rfl rfl (yl_field rfl rfl Try.underlying33 rfl (by kernel_rfl) rfl) ?_
    refine wl_read rfl rfl rfl (yl_load rfl rfl Try.underlying3 rfl (hR.cell2 (at_some hk1) rfl)) ?_
    refine wl_read rfl rfl rfl (yl_move rfl rfl) ?_
    refine wl_split rfl rfl rfl (yp_eql rfl rfl rfl) ?_ ?_
    · intro h4_9
      refine wl_read rfl rfl rfl (yl_move rfl rfl) ?_
      refine wl_read rfl rfl rfl (yl_move rfl rfl) ?_
      refine wl_read rfl rfl rfl (yl_nilCheck rfl rfl) ?_
      refine wl_read rfl rfl rfl (yl_fieldB rfl rfl Try.underlying45 rfl (by kernel_rfl) rfl) ?_
      refine wl_read rfl rfl rfl (yl_load rfl rfl Try.underlying27 rfl hB) ?_
      refine wl_read rfl rfl rfl (yl_move rfl rfl) ?_
      refine wl_read rfl rfl rfl (yl_index rfl rfl rfl hR (at_some hk1) rfl rfl Try.underlying27 (by kernel_rfl) rfl) ?_
      refine wl_read rfl rfl rfl (yl_field rfl rfl Try.underlying33 rfl (by kernel_rfl) rfl) ?_
      refine wl_read rfl rfl rfl (yl_load rfl rfl Try.underlying3 rfl (hR.cell2 (at_some hk1) rfl)) ?_
      refine wl_read rfl rfl rfl (yl_move rfl rfl) ?_
      refine wl_split rfl rfl rfl (yp_eql rfl rfl rfl) ?_ ?_
      · intro h4_20
        refine wl_read rfl rfl rfl (yl_pickT rfl rfl rfl) ?_
        refine wl_read rfl rfl rfl (yl_move rfl rfl) ?_
        refine wl_read rfl rfl rfl (yl_move rfl rfl) ?_
        refine wl_read rfl rfl rfl (yl_nilCheck rfl rfl) ?_
        refine wl_read rfl rfl rfl (yl_fieldB rfl rfl Try.underlying45 rfl (by kernel_rfl) rfl) ?_
        refine wl_read rfl rfl rfl (yl_load rfl rfl Try.underlying27 rfl hB) ?_
        refine wl_read rfl rfl rfl (yl_move rfl rfl) ?_
        refine wl_read rfl rfl rfl (yl_index rfl rfl rfl hR (at_some hk1) rfl rfl Try.underlying27 (by kernel_rfl) rfl) ?_
        refine wl_read rfl rfl rfl (yl_field rfl rfl Try.underlying33 rfl (by kernel_rfl) rfl) ?_
        refine wl_read rfl rfl rfl (yl_load rfl rfl Try.underlying3 rfl (hR.cell2 (at_some hk1) rfl)) ?_
        refine wl_read rfl rfl rfl (yl_move rfl rfl) ?_
        refine wl_split rfl rfl rfl (yp_eql rfl rfl rfl) ?_ ?_
        · intro h4_32
          refine wl_read rfl rfl rfl (yl_pickT rfl rfl rfl) ?_
          refine wl_nil ?_
          refine at_keep (Keep.cons 0 rfl (Keep.cons 1 rfl (Keep.cons 2 rfl (Keep.cons 3 rfl (Keep.cons 9 rfl (Keep.cons 16 rfl (Keep.cons 52 rfl Keep.nil))))))) ?_
          refine at_true rfl ?_
          refine at_seq ?_
          refine at_region ?_
          refine wl_read rfl rfl rfl (yl_assign rfl rfl) ?_
          refine wl_nil ?_
          refine at_keep (Keep.cons 0 rfl (Keep.cons 1 rfl (Keep.cons 2 rfl (Keep.cons 3 rfl (Keep.cons 8 rfl (Keep.cons 9 rfl (Keep.cons 16 rfl (Keep.cons 52 rfl Keep.nil)))))))) ?_
          refine at_ret Try.func32 (res1 rfl rfl) ?_
          have hp : 0 < cnt es k0 := cnt_pos hk1 (by unfold Entry.key; rw [h4_9, h4_20, h4_32])
          exact ⟨by rw [decide_eq_true hp], rfl⟩
        · intro h4_32
          refine wl_read rfl rfl rfl (yl_pickT rfl rfl rfl) ?_
          refine wl_nil ?_
          refine at_keep (Keep.cons 0 rfl (Keep.cons 1 rfl (Keep.cons 2 rfl (Keep.cons 3 rfl (Keep.cons 9 rfl (Keep.cons 16 rfl (Keep.cons 52 rfl Keep.nil))))))) ?_
          refine at_false rfl ?_
          refine at_skip ?_
          refine at_inBlock ?_
          have hne : (at_ es k).key ≠ k0 := fun h => h4_32 (by rw [← h]; rfl)
          refine at_region ?_
          refine wl_read rfl rfl rfl (yl_move rfl rfl) ?_
          refine wl_read rfl rfl rfl (yl_add rfl rfl rfl (w64 (by omega) (by omega))) ?_
          refine wl_read rfl rfl rfl (yl_assign rfl rfl) ?_
          refine wl_nil ?_
          refine at_keep (Keep.cons 0 rfl (Keep.cons 1 rfl (Keep.cons 2 rfl (Keep.cons 3 rfl (Keep.cons 9 rfl (Keep.cons 16 rfl (Keep.cons 52 rfl Keep.nil))))))) ?_
          exact at_keep (L' := (fun (k : Nat) => [(0, .pointer (some ⟨g, 0, none⟩)), (1, .int .i64 k0.1), (2, .int .i64 k0.2.1), (3, .int .i64 k0.2.2), (9, .int .i64 (k : Int))]) (k + 1)) (Keep.consEq 0 rfl rfl (Keep.consEq 1 rfl rfl (Keep.consEq 2 rfl rfl (Keep.consEq 3 rfl rfl (Keep.consEq 9 rfl rfl Keep.nil))))) (ih (k + 1) ⟨by omega, fun i hi => by
      rcases Nat.lt_or_ge i k with h | h
      · exact hI2 i h
      · obtain rfl : i = k := by omega
        exact hne⟩ (by omega))
      · intro h4_20
        refine wl_read rfl rfl rfl (yl_pickT rfl rfl rfl) ?_
        refine wl_read rfl rfl rfl (yl_move rfl rfl) ?_
        refine wl_skip rfl rfl rfl ?_
        refine wl_skip rfl rfl rfl ?_
        refine wl_skip rfl rfl rfl ?_
        refine wl_skip rfl rfl rfl ?_
        refine wl_skip rfl rfl rfl ?_
        refine wl_skip rfl rfl rfl ?_
        refine wl_skip rfl rfl rfl ?_
        refine wl_skip rfl rfl rfl ?_
        refine wl_skip rfl rfl rfl ?_
        refine wl_skip rfl rfl rfl ?_
        refine wl_read rfl rfl rfl (yl_pickF rfl rfl rfl) ?_
        refine wl_nil ?_
        refine at_keep (Keep.cons 0 rfl (Keep.cons 1 rfl (Keep.cons 2 rfl (Keep.cons 3 rfl (Keep.cons 9 rfl (Keep.cons 16 rfl (Keep.cons 52 rfl Keep.nil))))))) ?_
        refine at_false rfl ?_
        refine at_skip ?_
        refine at_inBlock ?_
        have hne : (at_ es k).key ≠ k0 := fun h => h4_20 (by rw [← h]; rfl)
        refine at_region ?_
        refine wl_read rfl rfl rfl (yl_move rfl rfl) ?_
        refine wl_read rfl rfl rfl (yl_add rfl rfl rfl (w64 (by omega) (by omega))) ?_
        refine wl_read rfl rfl rfl (yl_assign rfl rfl) ?_
        refine wl_nil ?_
        refine at_keep (Keep.cons 0 rfl (Keep.cons 1 rfl (Keep.cons 2 rfl (Keep.cons 3 rfl (Keep.cons 9 rfl (Keep.cons 16 rfl (Keep.cons 52 rfl Keep.nil))))))) ?_
        exact at_keep (L' := (fun (k : Nat) => [(0, .pointer (some ⟨g, 0, none⟩)), (1, .int .i64 k0.1), (2, .int .i64 k0.2.1), (3, .int .i64 k0.2.2), (9, .int .i64 (k : Int))]) (k + 1)) (Keep.consEq 0 rfl rfl (Keep.consEq 1 rfl rfl (Keep.consEq 2 rfl rfl (Keep.consEq 3 rfl rfl (Keep.consEq 9 rfl rfl Keep.nil))))) (ih (k + 1) ⟨by omega, fun i hi => by
      rcases Nat.lt_or_ge i k with h | h
      · exact hI2 i h
      · obtain rfl : i = k := by omega
        exact hne⟩ (by omega))
    · intro h4_9
      refine wl_read rfl rfl rfl (yl_move rfl rfl) ?_
      refine wl_skip rfl rfl rfl ?_
      refine wl_skip rfl rfl rfl ?_
      refine wl_skip rfl rfl rfl ?_
      refine wl_skip rfl rfl rfl ?_
      refine wl_skip rfl rfl rfl ?_
      refine wl_skip rfl rfl rfl ?_
      refine wl_skip rfl rfl rfl ?_
      refine wl_skip rfl rfl rfl ?_
      refine wl_skip rfl rfl rfl ?_
      refine wl_skip rfl rfl rfl ?_
      refine wl_read rfl rfl rfl (yl_pickF rfl rfl rfl) ?_
      refine wl_read rfl rfl rfl (yl_move rfl rfl) ?_
      refine wl_skip rfl rfl rfl ?_
      refine wl_skip rfl rfl rfl ?_
      refine wl_skip rfl rfl rfl ?_
      refine wl_skip rfl rfl rfl ?_
      refine wl_skip rfl rfl rfl ?_
      refine wl_skip rfl rfl rfl ?_
      refine wl_skip rfl rfl rfl ?_
      refine wl_skip rfl rfl rfl ?_
      refine wl_skip rfl rfl rfl ?_
      refine wl_skip rfl rfl rfl ?_
      refine wl_read rfl rfl rfl (yl_pickF rfl rfl rfl) ?_
      refine wl_nil ?_
      refine at_keep (Keep.cons 0 rfl (Keep.cons 1 rfl (Keep.cons 2 rfl (Keep.cons 3 rfl (Keep.cons 9 rfl (Keep.cons 16 rfl (Keep.cons 52 rfl Keep.nil))))))) ?_
      refine at_false rfl ?_
      refine at_skip ?_
      refine at_inBlock ?_
      have hne : (at_ es k).key ≠ k0 := fun h => h4_9 (by rw [← h]; rfl)
      refine at_region ?_
      refine wl_read rfl rfl rfl (yl_move rfl rfl) ?_
      refine wl_read rfl rfl rfl (yl_add rfl rfl rfl (w64 (by omega) (by omega))) ?_
      refine wl_read rfl rfl rfl (yl_assign rfl rfl) ?_
      refine wl_nil ?_
      refine at_keep (Keep.cons 0 rfl (Keep.cons 1 rfl (Keep.cons 2 rfl (Keep.cons 3 rfl (Keep.cons 9 rfl (Keep.cons 16 rfl (Keep.cons 52 rfl Keep.nil))))))) ?_
      exact at_keep (L' := (fun (k : Nat) => [(0, .pointer (some ⟨g, 0, none⟩)), (1, .int .i64 k0.1), (2, .int .i64 k0.2.1), (3, .int .i64 k0.2.2), (9, .int .i64 (k : Int))]) (k + 1)) (Keep.consEq 0 rfl rfl (Keep.consEq 1 rfl rfl (Keep.consEq 2 rfl rfl (Keep.consEq 3 rfl rfl (Keep.consEq 9 rfl rfl Keep.nil))))) (ih (k + 1) ⟨by omega, fun i hi => by
      rcases Nat.lt_or_ge i k with h | h
      · exact hI2 i h
      · obtain rfl : i = k := by omega
        exact hne⟩ (by omega))
  · intro h2_6
    refine wl_nil ?_
    refine at_keep (Keep.cons 0 rfl (Keep.cons 1 rfl (Keep.cons 2 rfl (Keep.cons 3 rfl (Keep.cons 9 rfl (Keep.cons 16 rfl Keep.nil)))))) ?_
    refine at_false rfl ?_
    refine at_exit rfl ?_
    refine at_seq ?_
    refine at_region ?_
    refine wl_read rfl rfl rfl (yl_assign rfl rfl) ?_
    refine wl_nil ?_
    refine at_keep (Keep.cons 0 rfl (Keep.cons 1 rfl (Keep.cons 2 rfl (Keep.cons 3 rfl (Keep.cons 8 rfl (Keep.cons 9 rfl (Keep.cons 16 rfl Keep.nil))))))) ?_
    refine at_ret Try.func32 (res1 rfl rfl) ?_
    have hp : ¬ 0 < cnt es k0 := by rw [cnt_zero (fun i hi => hI2 i (by omega))]; omega
    exact ⟨by rw [decide_eq_false hp], rfl⟩
theorem rhas_fn (es : List Entry) (g : Nat) (b : World) (H : List Asr) (k0 : Key) (hl : es.length ≤ 1000) : Fn Try.prog 32 [.pointer (some ⟨g, 0, none⟩), .int .i64 k0.1, .int .i64 k0.2.1, .int .i64 k0.2.2] b (RAcc g es :: H) (fun v H' => v = .bool (decide (0 < cnt es k0)) ∧ RAcc g es :: H = H') :=
  RAcc.fn fun A c => (rhas_at es g _ _ k0 hl (CellAt.bk 0 rfl rfl) (Rd.of_sl 1 rfl)).heap (by rintro v _ ⟨h1, rfl⟩; exact ⟨_, ⟨h1, rfl⟩, fun _ hw => RAcc.closes hw⟩)

theorem same_fn (xs ys : List Entry) (A A2 : Option Addr) (c c2 : Nat) (b : World) (H : List Asr) (hR : Rd H A xs) (hR2 : Rd H A2 ys) (hl : xs.length ≤ 140737488355328) :
    Fn Try.prog 27 [.slice A xs.length c, .slice A2 ys.length c2] b H (fun v H' => v = .bool (decide (xs = ys)) ∧ H = H') := by
  refine fn_of_at (by kernel_rfl) Try.func27 rfl Try.ntmps27 rfl rfl ?_
  refine at_seq ?_
  refine at_region ?_
  refine wl_read rfl rfl rfl (yl_assign rfl rfl) ?_
  refine wl_nil ?_
  refine at_keep (Keep.cons 0 rfl (Keep.cons 1 rfl (Keep.cons 4 rfl Keep.nil))) ?_
  refine at_seq ?_
  refine at_seq ?_
  refine at_region ?_
  refine wl_read rfl rfl rfl (yl_move rfl rfl) ?_
  refine wl_read rfl rfl rfl (yl_len rfl rfl Try.underlying27) ?_
  refine wl_read rfl rfl rfl (yl_move rfl rfl) ?_
  refine wl_read rfl rfl rfl (yl_len rfl rfl Try.underlying27) ?_
  refine wl_split rfl rfl rfl (yp_neq rfl rfl rfl) ?_ ?_
  · intro h1_4
    refine wl_nil ?_
    refine at_keep (Keep.cons 0 rfl (Keep.cons 1 rfl (Keep.cons 4 rfl (Keep.cons 10 rfl Keep.nil)))) ?_
    refine at_true rfl ?_
    refine at_seq ?_
    refine at_region ?_
    refine wl_read rfl rfl rfl (yl_assign rfl rfl) ?_
    refine wl_nil ?_
    refine at_keep (Keep.cons 0 rfl (Keep.cons 1 rfl (Keep.cons 4 rfl (Keep.cons 10 rfl Keep.nil)))) ?_
    refine at_ret Try.func27 (res1 rfl rfl) ?_
    exact ⟨by rw [decide_eq_false (fun h => h1_4 (by rw [h]))], rfl⟩
  · intro h1_4
    refine wl_nil ?_
    refine at_keep (Keep.cons 0 rfl (Keep.cons 1 rfl (Keep.cons 4 rfl (Keep.cons 10 rfl Keep.nil)))) ?_
    refine at_false rfl ?_
    refine at_skip ?_
    refine at_seq ?_
    refine at_seq ?_
    have hlen : xs.length = ys.length := by omega
    refine at_region ?_
    refine wl_read rfl rfl rfl (yl_assign rfl rfl) ?_
    refine wl_nil ?_
    refine at_keep (Keep.cons 0 rfl (Keep.cons 1 rfl (Keep.cons 4 rfl (Keep.cons 5 rfl (Keep.cons 10 rfl Keep.nil))))) ?_
    refine at_block ?_
    refine at_keep (L' := (fun (k : Nat) => [(0, .slice A xs.length c), (1, .slice A2 ys.length c2), (5, .int .i64 (k : Int))]) 0) (Keep.consEq 0 rfl rfl (Keep.consEq 1 rfl rfl (Keep.consEq 5 rfl rfl Keep.nil))) ?_
    refine at_loop1 (fun (k : Nat) => k ≤ xs.length ∧ ∀ i, i < k → at_ xs i = at_ ys i) (fun (k : Nat) => [(0, .slice A xs.length c), (1, .slice A2 ys.length c2), (5, .int .i64 (k : Int))]) (fun (k : Nat) => H) (fun (k : Nat) => xs.length - k) 0 ⟨by omega, fun i hi => absurd hi (by omega)⟩ ?_
    intro k hI ih
    obtain ⟨hI1, hI2⟩ := hI
    refine at_seq ?_
    refine at_seq ?_
    refine at_region ?_
    refine wl_read rfl rfl rfl (yl_move rfl rfl) ?_
    refine wl_read rfl rfl rfl (yl_move rfl rfl) ?_
    refine wl_read rfl rfl rfl (yl_len rfl rfl Try.underlying27) ?_
    refine wl_split rfl rfl rfl (yp_lss rfl rfl rfl) ?_ ?_
    · intro h4_3
      refine wl_nil ?_
      refine at_keep (Keep.cons 0 rfl (Keep.cons 1 rfl (Keep.cons 5 rfl (Keep.cons 14 rfl Keep.nil)))) ?_
      refine at_true rfl ?_
      refine at_skip ?_
      refine at_seq ?_
      refine at_block ?_
      refine at_seq ?_
      have hk1 : k < xs.length := by omega
      have hk2 : k < ys.length := by omega
      refine at_draw0 (.fl 0 (.fl 1 (.fl 2 (.fl 3 (.fl 4 (.fl 5 (.fl 6 (.fl 7 (.fl 8 .nil))))))))) (by kernel_rfl) (by kernel_rfl) ?_
      refine wt_read rfl rfl rfl rfl (yl_move rfl rfl) ?_
      refine wt_read rfl rfl rfl rfl (yl_move rfl rfl) ?_
      refine wt_read rfl rfl rfl rfl (yl_index rfl rfl rfl hR (at_some hk1) rfl rfl Try.underlying27 (by kernel_rfl) rfl) ?_
      refine wt_read rfl rfl rfl rfl (yl_loadRow rfl rfl hR (at_some hk1) Try.underlying33 rfl (by kernel_rfl) rfl) ?_
      refine wt_read rfl rfl rfl rfl (yl_move rfl rfl) ?_
      refine wt_read rfl rfl rfl rfl (yl_move rfl rfl) ?_
      refine wt_read rfl rfl rfl rfl (yl_index rfl rfl rfl hR2 (at_some hk2) rfl rfl Try.underlying27 (by kernel_rfl) rfl) ?_
      refine wt_read rfl rfl rfl rfl (yl_loadRow rfl rfl hR2 (at_some hk2) Try.underlying33 rfl (by kernel_rfl) rfl) ?_
      refine wt_split rfl rfl rfl rfl (yp_neAgg rfl rfl rfl (by kernel_rfl) (eqT33 _ _) (eqF33 _ _)) ?_ ?_
      · intro h6_8
        refine wt_nil ?_
        refine at_keep (Keep.cons 0 rfl (Keep.cons 1 rfl (Keep.cons 5 rfl (Keep.cons 14 rfl (Keep.cons 25 rfl Keep.nil))))) ?_
        refine at_true rfl ?_
        refine at_seq ?_
        refine at_region ?_
        refine wl_read rfl rfl rfl (yl_assign rfl rfl) ?_
        refine wl_nil ?_
        refine at_keep (Keep.cons 0 rfl (Keep.cons 1 rfl (Keep.cons 4 rfl (Keep.cons 5 rfl (Keep.cons 14 rfl (Keep.cons 25 rfl Keep.nil)))))) ?_
        refine at_ret Try.func27 (res1 rfl rfl) ?_
        exact ⟨by rw [decide_eq_false (fun h => h6_8 (by rw [h]))], rfl⟩
      · intro h6_8
        refine wt_nil ?_
        refine at_keep (Keep.cons 0 rfl (Keep.cons 1 rfl (Keep.cons 5 rfl (Keep.cons 14 rfl (Keep.cons 25 rfl Keep.nil))))) ?_
        refine at_false rfl ?_
        refine at_skip ?_
        refine at_inBlock ?_
        refine at_region ?_
        refine wl_read rfl rfl rfl (yl_move rfl rfl) ?_
        refine wl_read rfl rfl rfl (yl_add rfl rfl rfl (w64 (by omega) (by omega))) ?_
        refine wl_read rfl rfl rfl (yl_assign rfl rfl) ?_
        refine wl_nil ?_
        refine at_keep (Keep.cons 0 rfl (Keep.cons 1 rfl (Keep.cons 5 rfl (Keep.cons 14 rfl (Keep.cons 25 rfl Keep.nil))))) ?_
        exact at_keep (L' := (fun (k : Nat) => [(0, .slice A xs.length c), (1, .slice A2 ys.length c2), (5, .int .i64 (k : Int))]) (k + 1)) (Keep.consEq 0 rfl rfl (Keep.consEq 1 rfl rfl (Keep.consEq 5 rfl rfl Keep.nil))) (ih (k + 1) ⟨by omega, fun i hi => by
      rcases Nat.lt_or_ge i k with h | h
      · exact hI2 i h
      · have e : i = k := by omega
        subst e; exact Decidable.not_not.1 h6_8⟩ (by omega))
    · intro h4_3
      refine wl_nil ?_
      refine at_keep (Keep.cons 0 rfl (Keep.cons 1 rfl (Keep.cons 5 rfl (Keep.cons 14 rfl Keep.nil)))) ?_
      refine at_false rfl ?_
      refine at_exit rfl ?_
      refine at_seq ?_
      refine at_region ?_
      refine wl_read rfl rfl rfl (yl_assign rfl rfl) ?_
      refine wl_nil ?_
      refine at_keep (Keep.cons 0 rfl (Keep.cons 1 rfl (Keep.cons 4 rfl (Keep.cons 5 rfl (Keep.cons 14 rfl Keep.nil))))) ?_
      refine at_ret Try.func27 (res1 rfl rfl) ?_
      exact ⟨by rw [decide_eq_true (ext_at hlen (fun i hi => hI2 i (by omega)))], rfl⟩
end Go.Proofs.Ytplaoddmgfcbcaa

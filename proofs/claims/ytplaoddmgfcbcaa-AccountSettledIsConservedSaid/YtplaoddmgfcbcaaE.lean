/- Walks of the entries of raw numbers, of play, same and awake. -/
import Derived.Test.YtplaoddmgfcbcaaD
namespace Go.Proofs.Ytplaoddmgfcbcaa
open Go

theorem entraw_fn (l : List Raw) (A : Option Addr) (c : Nat) (b : World) (H : List Asr) (hR : Rd H A l) (ha : ∀ i, i < l.length → I64 (at_ l i).amount) :
    Fn Try.prog 14 [.slice A l.length c] b H (fun v H' => ∃ A' c', v = .slice A' (entries l).length c' ∧ H' = Sl A' c' 33 (entries l) :: H) := by
  refine fn_of_at (by kernel_rfl) Try.func14 rfl Try.ntmps14 rfl rfl ?_
  refine at_seq ?_
  refine at_region ?_
  refine wl_read rfl rfl rfl (yl_assign rfl rfl) ?_
  refine wl_nil ?_
  refine at_keep (Keep.cons 0 rfl (Keep.cons 2 rfl Keep.nil)) ?_
  refine at_seq ?_
  refine at_region ?_
  refine wl_read rfl rfl rfl (yl_assign rfl rfl) ?_
  refine wl_nil ?_
  refine at_keep (Keep.cons 0 rfl (Keep.cons 2 rfl (Keep.cons 3 rfl Keep.nil))) ?_
  refine at_seq ?_
  refine at_region ?_
  refine wl_read rfl rfl rfl (yl_assign rfl rfl) ?_
  refine wl_nil ?_
  refine at_keep (Keep.cons 0 rfl (Keep.cons 2 rfl (Keep.cons 3 rfl (Keep.cons 4 rfl Keep.nil)))) ?_
  refine at_seq ?_
  refine at_seq ?_
  refine at_region ?_
  refine wl_read rfl rfl rfl (yl_assign rfl rfl) ?_
  refine wl_nil ?_
  refine at_keep (Keep.cons 0 rfl (Keep.cons 2 rfl (Keep.cons 3 rfl (Keep.cons 4 rfl (Keep.cons 5 rfl Keep.nil))))) ?_
  refine at_block ?_
  refine at_keep (L' := (fun (A1 : Option Addr) (c1 : Nat) (k : Nat) => [(0, .slice A l.length c), (3, .int .i64 (mon l k)), (4, .slice A1 (ents l k).length c1), (5, .int .i64 (k : Int))]) none 0 0) (Keep.consEq 0 rfl rfl (Keep.consEq 3 rfl rfl (Keep.consEq 4 rfl rfl (Keep.consEq 5 rfl rfl Keep.nil)))) ?_
  refine at_heap (fun _ hw => hw.nilSl (α := Entry) 33) ?_
  refine at_loop3 (fun (A1 : Option Addr) (c1 : Nat) (k : Nat) => k ≤ min l.length 30) (fun (A1 : Option Addr) (c1 : Nat) (k : Nat) => [(0, .slice A l.length c), (3, .int .i64 (mon l k)), (4, .slice A1 (ents l k).length c1), (5, .int .i64 (k : Int))]) (fun (A1 : Option Addr) (c1 : Nat) (k : Nat) => Sl A1 c1 33 (ents l k) :: H) (fun (A1 : Option Addr) (c1 : Nat) (k : Nat) => 30 - k) none 0 0 (by omega) ?_
  intro A1 c1 k hI ih
  have hel := ents_length l k
  have hmb := mon_bd l k
  have hmd1 := md_bd (at_ l k).gap 4 (by decide)
  have hmd2 := md_bd (at_ l k).gap 40 (by decide)
  have hq : (md (at_ l k).gap 40).tdiv 39 = md (at_ l k).gap 40 / 39 := Int.tdiv_eq_ediv_of_nonneg hmd2.1
  have hmd3 := md_bd (at_ l k).kind 3 (by decide)
  have hmd4 := md_bd (at_ l k).number 20 (by decide)
  refine at_seq ?_
  refine at_seq ?_
  refine at_region ?_
  refine wl_read rfl rfl rfl (yl_move rfl rfl) ?_
  refine wl_read rfl rfl rfl (yl_move rfl rfl) ?_
  refine wl_read rfl rfl rfl (yl_len rfl rfl Try.underlying22) ?_
  refine wl_split rfl rfl rfl (yp_lss rfl rfl rfl) ?_ ?_
  · intro h4_3
    refine wl_read rfl rfl rfl (yl_move rfl rfl) ?_
    refine wl_read rfl rfl rfl (yl_move rfl rfl) ?_
    refine wl_split rfl rfl rfl (yp_lss rfl rfl rfl) ?_ ?_
    · intro h4_6
      refine wl_read rfl rfl rfl (yl_pickT rfl rfl rfl) ?_
      refine wl_nil ?_
      refine at_keep (Keep.cons 0 rfl (Keep.cons 3 rfl (Keep.cons 4 rfl (Keep.cons 5 rfl (Keep.cons 14 rfl Keep.nil))))) ?_
      refine at_true rfl ?_
      refine at_skip ?_
      refine at_seq ?_
      refine at_block ?_
      refine at_seq ?_
      have hk1 : k < l.length := by omega
      refine at_draw0 (.fl 0 (.fl 1 (.fl 2 (.fl 3 (.fl 4 (.fl 5 (.fl 7 (.fl 8 (.fl 9 (.fl 10 (.fl 11 (.ef 6 (.ef 12 (.fl 13 (.fl 14 (.fl 15 (.fl 16 .nil))))))))))))))))) (by kernel_rfl) (by kernel_rfl) ?_
      refine wt_read rfl rfl rfl rfl (yl_move rfl rfl) ?_
      refine wt_read rfl rfl rfl rfl (yl_move rfl rfl) ?_
      refine wt_read rfl rfl rfl rfl (yl_move rfl rfl) ?_
      refine wt_read rfl rfl rfl rfl (yl_index rfl rfl rfl (hR.cons _) (at_some hk1) rfl rfl Try.underlying22 (by kernel_rfl) rfl) ?_
      refine wt_read rfl rfl rfl rfl (yl_field rfl rfl Try.underlying56 rfl (by kernel_rfl) rfl) ?_
      refine wt_read rfl rfl rfl rfl (yl_load rfl rfl Try.underlying3 rfl ((hR.cons _).cell2 (at_some hk1) rfl)) ?_
      refine wt_read rfl rfl rfl rfl (yl_move rfl rfl) ?_
      refine wt_read rfl rfl rfl rfl (yl_move rfl rfl) ?_
      refine wt_read rfl rfl rfl rfl (yl_index rfl rfl rfl (hR.cons _) (at_some hk1) rfl rfl Try.underlying22 (by kernel_rfl) rfl) ?_
      refine wt_read rfl rfl rfl rfl (yl_field rfl rfl Try.underlying56 rfl (by kernel_rfl) rfl) ?_
      refine wt_read rfl rfl rfl rfl (yl_load rfl rfl Try.underlying3 rfl ((hR.cons _).cell2 (at_some hk1) rfl)) ?_
      refine wt_call rfl rfl rfl rfl (en_call rfl rfl) (mod_fn _ _ _ _ (by decide) (by decide)) ?_
      rintro _ _ ⟨rfl, rfl⟩
      refine ⟨⟨[], rfl⟩, ?_⟩
      refine wt_call rfl rfl rfl rfl (en_call rfl rfl) (mod_fn _ _ _ _ (by decide) (by decide)) ?_
      rintro _ _ ⟨rfl, rfl⟩
      refine ⟨⟨[], rfl⟩, ?_⟩
      refine wt_read rfl rfl rfl rfl (yl_quo rfl rfl rfl (by decide) (w64 (by omega) (by omega))) ?_
      refine wt_read rfl rfl rfl rfl (yl_sub rfl rfl rfl (w64 (by omega) (by omega))) ?_
      refine wt_read rfl rfl rfl rfl (yl_add rfl rfl rfl (w64 (by omega) (by omega))) ?_
      refine wt_read rfl rfl rfl rfl (yl_assign rfl rfl) ?_
      refine wt_nil ?_
      refine at_keep (Keep.cons 0 rfl (Keep.cons 3 rfl (Keep.cons 4 rfl (Keep.cons 5 rfl (Keep.cons 14 rfl Keep.nil))))) ?_
      refine at_seq ?_
      refine at_draw0 (.fl 0 (.fl 1 (.fl 2 (.fl 3 (.fl 4 (.fl 5 (.fl 8 (.fl 9 (.fl 10 (.fl 11 (.fl 12 (.ef2 6 (.fl 7 (.ef2 13 (.fl 14 (.ef 15 (.ef 16 .nil))) 15 (.ef 13 (.fl 14 (.ef 16 .nil))))) 15 (.ef 6 (.fl 7 (.ef 13 (.fl 14 (.ef 16 .nil))))))))))))))))) (by kernel_rfl) (by kernel_rfl) ?_
      refine wt_read rfl rfl rfl rfl (yl_move rfl rfl) ?_
      refine wt_read rfl rfl rfl rfl (yl_move rfl rfl) ?_
      refine wt_read rfl rfl rfl rfl (yl_move rfl rfl) ?_
      refine wt_read rfl rfl rfl rfl (yl_index rfl rfl rfl (hR.cons _) (at_some hk1) rfl rfl Try.underlying22 (by kernel_rfl) rfl) ?_
      refine wt_read rfl rfl rfl rfl (yl_field rfl rfl Try.underlying56 rfl (by kernel_rfl) rfl) ?_
      refine wt_read rfl rfl rfl rfl (yl_load rfl rfl Try.underlying3 rfl ((hR.cons _).cell2 (at_some hk1) rfl)) ?_
      refine wt_read rfl rfl rfl rfl (yl_move rfl rfl) ?_
      refine wt_read rfl rfl rfl rfl (yl_move rfl rfl) ?_
      refine wt_read rfl rfl rfl rfl (yl_index rfl rfl rfl (hR.cons _) (at_some hk1) rfl rfl Try.underlying22 (by kernel_rfl) rfl) ?_
      refine wt_read rfl rfl rfl rfl (yl_field rfl rfl Try.underlying56 rfl (by kernel_rfl) rfl) ?_
      refine wt_read rfl rfl rfl rfl (yl_load rfl rfl Try.underlying3 rfl ((hR.cons _).cell2 (at_some hk1) rfl)) ?_
      refine wt_two ?_ ?_
      ·
        refine wt_call rfl rfl rfl rfl (en_call rfl rfl) (mod_fn _ _ _ _ (by decide) (by decide)) ?_
        rintro _ _ ⟨rfl, rfl⟩
        refine ⟨⟨[], rfl⟩, ?_⟩
        refine wt_read rfl rfl rfl rfl (yl_add rfl rfl rfl (w64 (by omega) (by omega))) ?_
        refine wt_two ?_ ?_
        ·
          refine wt_call rfl rfl rfl rfl (en_call rfl rfl) (amount_fn _ _ _ (ha k hk1)) ?_
          rintro _ _ ⟨rfl, rfl⟩
          refine ⟨⟨[], rfl⟩, ?_⟩
          refine wt_read rfl rfl rfl rfl (yl_build (cs := [.int .i64 (mon l k + (md (at_ l k).gap 4 - (md (at_ l k).gap 40).tdiv 39)), .int .i64 (1 + md (at_ l k).kind 3), .int .i64 0, .int .i64 0, .int .i64 (am (at_ l k).amount)]) rfl rfl (fun _ => by kernel_rfl)) ?_
          refine wt_eff rfl rfl rfl rfl (ef_alloc (cs := [.int .i64 0, .int .i64 0, .int .i64 0, .int .i64 0, .int .i64 0]) (z := .agg #[.int .i64 0, .int .i64 0, .int .i64 0, .int .i64 0, .int .i64 0]) rfl (by kernel_rfl) rfl) ?_
          rintro _ _ ⟨ge, rfl, rfl⟩
          refine ⟨⟨[_], rfl⟩, ?_⟩
          refine wt_store rfl rfl rfl (es_at0 (es_storeN 0 rfl rfl rfl rfl (by kernel_rfl) rfl rfl)) ⟨[_], rfl⟩ ?_
          refine wt_nil ?_
          refine at_keep (Keep.cons 0 rfl (Keep.cons 3 rfl (Keep.cons 4 rfl (Keep.cons 5 rfl (Keep.cons 6 rfl (Keep.cons 14 rfl Keep.nil)))))) ?_
          refine at_seq ?_
          refine at_seq ?_
          refine at_region ?_
          refine wl_read rfl rfl rfl (yl_fieldB rfl rfl Try.underlying33 rfl (by kernel_rfl) rfl) ?_
          refine wl_read rfl rfl rfl (yl_load rfl rfl Try.underlying3 rfl (CellAt.bk 0 rfl rfl)) ?_
          refine wl_split rfl rfl rfl (yp_neq rfl rfl rfl) ?_ ?_
          · intro h8_2
            refine wl_nil ?_
            refine at_keep (Keep.cons 0 rfl (Keep.cons 3 rfl (Keep.cons 4 rfl (Keep.cons 5 rfl (Keep.cons 6 rfl (Keep.cons 14 rfl (Keep.cons 50 rfl Keep.nil))))))) ?_
            refine at_true rfl ?_
            refine at_draw1 (.fl 0 (.fl 1 (.fl 2 (.fl 3 (.fl 4 (.fl 6 (.fl 7 (.fl 8 (.fl 9 (.fl 10 (.ef 5 (.fl 13 (.ef 11 (.fl 12 (.ef 14 (.fl 15 (.ef 16 .nil))))))))))))))))) (by kernel_rfl) (by kernel_rfl) ?_
            refine wt_read rfl rfl rfl rfl (yl_move rfl rfl) ?_
            refine wt_read rfl rfl rfl rfl (yl_move rfl rfl) ?_
            refine wt_read rfl rfl rfl rfl (yl_index rfl rfl rfl (hR.cons _) (at_some hk1) rfl rfl Try.underlying22 (by kernel_rfl) rfl) ?_
            refine wt_read rfl rfl rfl rfl (yl_field rfl rfl Try.underlying56 rfl (by kernel_rfl) rfl) ?_
            refine wt_read rfl rfl rfl rfl (yl_load rfl rfl Try.underlying3 rfl ((hR.cons _).cell2 (at_some hk1) rfl)) ?_
            refine wt_read rfl rfl rfl rfl (yl_move rfl rfl) ?_
            refine wt_read rfl rfl rfl rfl (yl_move rfl rfl) ?_
            refine wt_read rfl rfl rfl rfl (yl_index rfl rfl rfl (hR.cons _) (at_some hk1) rfl rfl Try.underlying22 (by kernel_rfl) rfl) ?_
            refine wt_read rfl rfl rfl rfl (yl_field rfl rfl Try.underlying56 rfl (by kernel_rfl) rfl) ?_
            refine wt_read rfl rfl rfl rfl (yl_load rfl rfl Try.underlying3 rfl ((hR.cons _).cell2 (at_some hk1) rfl)) ?_
            refine wt_call rfl rfl rfl rfl (en_call rfl rfl) (mod_fn _ _ _ _ (by decide) (by decide)) ?_
            rintro _ _ ⟨rfl, rfl⟩
            refine ⟨⟨[_], rfl⟩, ?_⟩
            refine wt_read rfl rfl rfl rfl (yl_fieldB rfl rfl Try.underlying33 rfl (by kernel_rfl) rfl) ?_
            refine wt_call rfl rfl rfl rfl (en_call rfl rfl) (mod_fn _ _ _ _ (by decide) (by decide)) ?_
            rintro _ _ ⟨rfl, rfl⟩
            refine ⟨⟨[_], rfl⟩, ?_⟩
            refine wt_read rfl rfl rfl rfl (yl_add rfl rfl rfl (w64 (by omega) (by omega))) ?_
            refine wt_store rfl rfl rfl (es_at0 (es_store 0 rfl rfl rfl rfl (by kernel_rfl) rfl rfl)) ⟨[_], rfl⟩ ?_
            refine wt_read rfl rfl rfl rfl (yl_fieldB rfl rfl Try.underlying33 rfl (by kernel_rfl) rfl) ?_
            refine wt_store rfl rfl rfl (es_at0 (es_store 0 rfl rfl rfl rfl (by kernel_rfl) rfl rfl)) ⟨[_], rfl⟩ ?_
            refine wt_nil ?_
            refine at_keep (Keep.cons 0 rfl (Keep.cons 3 rfl (Keep.cons 4 rfl (Keep.cons 5 rfl (Keep.cons 6 rfl (Keep.cons 14 rfl (Keep.cons 50 rfl Keep.nil))))))) ?_
            have he : ent1 l k = (⟨mon l k + (md (at_ l k).gap 4 - (md (at_ l k).gap 40).tdiv 39), 1 + md (at_ l k).kind 3, md (at_ l k).with_ 6, 1 + md (at_ l k).number 20, am (at_ l k).amount⟩ : Entry) := by unfold ent1; rw [if_neg h8_2]; rfl
            refine at_region ?_
            refine wl_read rfl rfl rfl (yl_move rfl rfl) ?_
            refine wl_read rfl rfl rfl (yl_loadBk 0 rfl rfl rfl Try.underlying33 rfl (by kernel_rfl)) ?_
            refine wl_eff rfl rfl rfl (ef_buildSlice (e := 33) [(⟨mon l k + (md (at_ l k).gap 4 - (md (at_ l k).gap 40).tdiv 39), 1 + md (at_ l k).kind 3, md (at_ l k).with_ 6, 1 + md (at_ l k).number 20, am (at_ l k).amount⟩ : Entry)] rfl rfl (fun _ => by kernel_rfl) rfl rfl) ?_
            rintro _ _ ⟨T10_2, rfl, rfl⟩
            refine wl_eff rfl rfl rfl (ef_append (ys := [(⟨mon l k + (md (at_ l k).gap 4 - (md (at_ l k).gap 40).tdiv 39), 1 + md (at_ l k).kind 3, md (at_ l k).with_ 6, 1 + md (at_ l k).number 20, am (at_ l k).amount⟩ : Entry)]) 2 rfl rfl rfl rfl (Rd.of_sl 0 rfl) Try.underlying27 info33 rfl rfl (by simp only [List.length_singleton, maxLen]; omega) (by simp only [List.length_singleton]; omega)) ?_
            rintro _ _ ⟨A2, c2, rfl, hH⟩
            simp only [List.set_cons_succ, List.set_cons_zero] at hH; subst hH
            rw [← he, ← ents_succ]
            refine wl_heap (fun _ hw => hw.tail.tail) ?_
            refine wl_read rfl rfl rfl (yl_assign rfl rfl) ?_
            refine wl_nil ?_
            refine at_keep (Keep.cons 0 rfl (Keep.cons 3 rfl (Keep.cons 4 rfl (Keep.cons 5 rfl (Keep.cons 6 rfl (Keep.cons 14 rfl (Keep.cons 50 rfl Keep.nil))))))) ?_
            refine at_inBlock ?_
            refine at_region ?_
            refine wl_read rfl rfl rfl (yl_move rfl rfl) ?_
            refine wl_read rfl rfl rfl (yl_add rfl rfl rfl (w64 (by omega) (by omega))) ?_
            refine wl_read rfl rfl rfl (yl_assign rfl rfl) ?_
            refine wl_nil ?_
            refine at_keep (Keep.cons 0 rfl (Keep.cons 3 rfl (Keep.cons 4 rfl (Keep.cons 5 rfl (Keep.cons 6 rfl (Keep.cons 14 rfl (Keep.cons 50 rfl Keep.nil))))))) ?_
            exact at_keep (L' := (fun (A1 : Option Addr) (c1 : Nat) (k : Nat) => [(0, .slice A l.length c), (3, .int .i64 (mon l k)), (4, .slice A1 (ents l k).length c1), (5, .int .i64 (k : Int))]) A2 c2 (k + 1)) (Keep.consEq 0 rfl rfl (Keep.consEq 3 rfl rfl (Keep.consEq 4 rfl rfl (Keep.consEq 5 rfl rfl Keep.nil)))) (ih A2 c2 (k + 1) (by omega) (by omega))
          · intro h8_2
            refine wl_nil ?_
            refine at_keep (Keep.cons 0 rfl (Keep.cons 3 rfl (Keep.cons 4 rfl (Keep.cons 5 rfl (Keep.cons 6 rfl (Keep.cons 14 rfl (Keep.cons 50 rfl Keep.nil))))))) ?_
            refine at_false rfl ?_
            refine at_skip ?_
            have he : ent1 l k = (⟨mon l k + (md (at_ l k).gap 4 - (md (at_ l k).gap 40).tdiv 39), 1 + md (at_ l k).kind 3, 0, 0, am (at_ l k).amount⟩ : Entry) := by unfold ent1; rw [if_pos (Decidable.not_not.1 h8_2)]; rfl
            refine at_region ?_
            refine wl_read rfl rfl rfl (yl_move rfl rfl) ?_
            refine wl_read rfl rfl rfl (yl_loadBk 0 rfl rfl rfl Try.underlying33 rfl (by kernel_rfl)) ?_
            refine wl_eff rfl rfl rfl (ef_buildSlice (e := 33) [(⟨mon l k + (md (at_ l k).gap 4 - (md (at_ l k).gap 40).tdiv 39), 1 + md (at_ l k).kind 3, 0, 0, am (at_ l k).amount⟩ : Entry)] rfl rfl (fun _ => by kernel_rfl) rfl rfl) ?_
            rintro _ _ ⟨T10_2, rfl, rfl⟩
            refine wl_eff rfl rfl rfl (ef_append (ys := [(⟨mon l k + (md (at_ l k).gap 4 - (md (at_ l k).gap 40).tdiv 39), 1 + md (at_ l k).kind 3, 0, 0, am (at_ l k).amount⟩ : Entry)]) 2 rfl rfl rfl rfl (Rd.of_sl 0 rfl) Try.underlying27 info33 rfl rfl (by simp only [List.length_singleton, maxLen]; omega) (by simp only [List.length_singleton]; omega)) ?_
            rintro _ _ ⟨A2, c2, rfl, hH⟩
            simp only [List.set_cons_succ, List.set_cons_zero] at hH; subst hH
            rw [← he, ← ents_succ]
            refine wl_heap (fun _ hw => hw.tail.tail) ?_
            refine wl_read rfl rfl rfl (yl_assign rfl rfl) ?_
            refine wl_nil ?_
            refine at_keep (Keep.cons 0 rfl (Keep.cons 3 rfl (Keep.cons 4 rfl (Keep.cons 5 rfl (Keep.cons 6 rfl (Keep.cons 14 rfl (Keep.cons 50 rfl Keep.nil))))))) ?_
            refine at_inBlock ?_
            refine at_region ?_
            refine wl_read rfl rfl rfl (yl_move rfl rfl) ?_
            refine wl_read rfl rfl rfl (yl_add rfl rfl rfl (w64 (by omega) (by omega))) ?_
            refine wl_read rfl rfl rfl (yl_assign rfl rfl) ?_
            refine wl_nil ?_
            refine at_keep (Keep.cons 0 rfl (Keep.cons 3 rfl (Keep.cons 4 rfl (Keep.cons 5 rfl (Keep.cons 6 rfl (Keep.cons 14 rfl (Keep.cons 50 rfl Keep.nil))))))) ?_
            exact at_keep (L' := (fun (A1 : Option Addr) (c1 : Nat) (k : Nat) => [(0, .slice A l.length c), (3, .int .i64 (mon l k)), (4, .slice A1 (ents l k).length c1), (5, .int .i64 (k : Int))]) A2 c2 (k + 1)) (Keep.consEq 0 rfl rfl (Keep.consEq 3 rfl rfl (Keep.consEq 4 rfl rfl (Keep.consEq 5 rfl rfl Keep.nil)))) (ih A2 c2 (k + 1) (by omega) (by omega))
        ·
          refine wt_eff rfl rfl rfl rfl (ef_alloc (cs := [.int .i64 0, .int .i64 0, .int .i64 0, .int .i64 0, .int .i64 0]) (z := .agg #[.int .i64 0, .int .i64 0, .int .i64 0, .int .i64 0, .int .i64 0]) rfl (by kernel_rfl) rfl) ?_
          rintro _ _ ⟨ge, rfl, rfl⟩
          refine ⟨⟨[_], rfl⟩, ?_⟩
          refine wt_call rfl rfl rfl rfl (en_call rfl rfl) (amount_fn _ _ _ (ha k hk1)) ?_
          rintro _ _ ⟨rfl, rfl⟩
          refine ⟨⟨[_], rfl⟩, ?_⟩
          refine wt_read rfl rfl rfl rfl (yl_build (cs := [.int .i64 (mon l k + (md (at_ l k).gap 4 - (md (at_ l k).gap 40).tdiv 39)), .int .i64 (1 + md (at_ l k).kind 3), .int .i64 0, .int .i64 0, .int .i64 (am (at_ l k).amount)]) rfl rfl (fun _ => by kernel_rfl)) ?_
          refine wt_store rfl rfl rfl (es_at0 (es_storeN 0 rfl rfl rfl rfl (by kernel_rfl) rfl rfl)) ⟨[_], rfl⟩ ?_
          refine wt_nil ?_
          refine at_keep (Keep.cons 0 rfl (Keep.cons 3 rfl (Keep.cons 4 rfl (Keep.cons 5 rfl (Keep.cons 6 rfl (Keep.cons 14 rfl Keep.nil)))))) ?_
          refine at_seq ?_
          refine at_seq ?_
          refine at_region ?_
          refine wl_read rfl rfl rfl (yl_fieldB rfl rfl Try.underlying33 rfl (by kernel_rfl) rfl) ?_
          refine wl_read rfl rfl rfl (yl_load rfl rfl Try.underlying3 rfl (CellAt.bk 0 rfl rfl)) ?_
          refine wl_split rfl rfl rfl (yp_neq rfl rfl rfl) ?_ ?_
          · intro h8_2
            refine wl_nil ?_
            refine at_keep (Keep.cons 0 rfl (Keep.cons 3 rfl (Keep.cons 4 rfl (Keep.cons 5 rfl (Keep.cons 6 rfl (Keep.cons 14 rfl (Keep.cons 50 rfl Keep.nil))))))) ?_
            refine at_true rfl ?_
            refine at_draw1 (.fl 0 (.fl 1 (.fl 2 (.fl 3 (.fl 4 (.fl 6 (.fl 7 (.fl 8 (.fl 9 (.fl 10 (.ef 5 (.fl 13 (.ef 11 (.fl 12 (.ef 14 (.fl 15 (.ef 16 .nil))))))))))))))))) (by kernel_rfl) (by kernel_rfl) ?_
            refine wt_read rfl rfl rfl rfl (yl_move rfl rfl) ?_
            refine wt_read rfl rfl rfl rfl (yl_move rfl rfl) ?_
            refine wt_read rfl rfl rfl rfl (yl_index rfl rfl rfl (hR.cons _) (at_some hk1) rfl rfl Try.underlying22 (by kernel_rfl) rfl) ?_
            refine wt_read rfl rfl rfl rfl (yl_field rfl rfl Try.underlying56 rfl (by kernel_rfl) rfl) ?_
            refine wt_read rfl rfl rfl rfl (yl_load rfl rfl Try.underlying3 rfl ((hR.cons _).cell2 (at_some hk1) rfl)) ?_
            refine wt_read rfl rfl rfl rfl (yl_move rfl rfl) ?_
            refine wt_read rfl rfl rfl rfl (yl_move rfl rfl) ?_
            refine wt_read rfl rfl rfl rfl (yl_index rfl rfl rfl (hR.cons _) (at_some hk1) rfl rfl Try.underlying22 (by kernel_rfl) rfl) ?_
            refine wt_read rfl rfl rfl rfl (yl_field rfl rfl Try.underlying56 rfl (by kernel_rfl) rfl) ?_
            refine wt_read rfl rfl rfl rfl (yl_load rfl rfl Try.underlying3 rfl ((hR.cons _).cell2 (at_some hk1) rfl)) ?_
            refine wt_call rfl rfl rfl rfl (en_call rfl rfl) (mod_fn _ _ _ _ (by decide) (by decide)) ?_
            rintro _ _ ⟨rfl, rfl⟩
            refine ⟨⟨[_], rfl⟩, ?_⟩
            refine wt_read rfl rfl rfl rfl (yl_fieldB rfl rfl Try.underlying33 rfl (by kernel_rfl) rfl) ?_
            refine wt_call rfl rfl rfl rfl (en_call rfl rfl) (mod_fn _ _ _ _ (by decide) (by decide)) ?_
            rintro _ _ ⟨rfl, rfl⟩
            refine ⟨⟨[_], rfl⟩, ?_⟩
            refine wt_read rfl rfl rfl rfl (yl_add rfl rfl rfl (w64 (by omega) (by omega))) ?_
            refine wt_store rfl rfl rfl (es_at0 (es_store 0 rfl rfl rfl rfl (by kernel_rfl) rfl rfl)) ⟨[_], rfl⟩ ?_
            refine wt_read rfl rfl rfl rfl (yl_fieldB rfl rfl Try.underlying33 rfl (by kernel_rfl) rfl) ?_
            refine wt_store rfl rfl rfl (es_at0 (es_store 0 rfl rfl rfl rfl (by kernel_rfl) rfl rfl)) ⟨[_], rfl⟩ ?_
            refine wt_nil ?_
            refine at_keep (Keep.cons 0 rfl (Keep.cons 3 rfl (Keep.cons 4 rfl (Keep.cons 5 rfl (Keep.cons 6 rfl (Keep.cons 14 rfl (Keep.cons 50 rfl Keep.nil))))))) ?_
            have he : ent1 l k = (⟨mon l k + (md (at_ l k).gap 4 - (md (at_ l k).gap 40).tdiv 39), 1 + md (at_ l k).kind 3, md (at_ l k).with_ 6, 1 + md (at_ l k).number 20, am (at_ l k).amount⟩ : Entry) := by unfold ent1; rw [if_neg h8_2]; rfl
            refine at_region ?_
            refine wl_read rfl rfl rfl (yl_move rfl rfl) ?_
            refine wl_read rfl rfl rfl (yl_loadBk 0 rfl rfl rfl Try.underlying33 rfl (by kernel_rfl)) ?_
            refine wl_eff rfl rfl rfl (ef_buildSlice (e := 33) [(⟨mon l k + (md (at_ l k).gap 4 - (md (at_ l k).gap 40).tdiv 39), 1 + md (at_ l k).kind 3, md (at_ l k).with_ 6, 1 + md (at_ l k).number 20, am (at_ l k).amount⟩ : Entry)] rfl rfl (fun _ => by kernel_rfl) rfl rfl) ?_
            rintro _ _ ⟨T10_2, rfl, rfl⟩
            refine wl_eff rfl rfl rfl (ef_append (ys := [(⟨mon l k + (md (at_ l k).gap 4 - (md (at_ l k).gap 40).tdiv 39), 1 + md (at_ l k).kind 3, md (at_ l k).with_ 6, 1 + md (at_ l k).number 20, am (at_ l k).amount⟩ : Entry)]) 2 rfl rfl rfl rfl (Rd.of_sl 0 rfl) Try.underlying27 info33 rfl rfl (by simp only [List.length_singleton, maxLen]; omega) (by simp only [List.length_singleton]; omega)) ?_
            rintro _ _ ⟨A2, c2, rfl, hH⟩
            simp only [List.set_cons_succ, List.set_cons_zero] at hH; subst hH
            rw [← he, ← ents_succ]
            refine wl_heap (fun _ hw => hw.tail.tail) ?_
            refine wl_read rfl rfl rfl (yl_assign rfl rfl) ?_
            refine wl_nil ?_
            refine at_keep (Keep.cons 0 rfl (Keep.cons 3 rfl (Keep.cons 4 rfl (Keep.cons 5 rfl (Keep.cons 6 rfl (Keep.cons 14 rfl (Keep.cons 50 rfl Keep.nil))))))) ?_
            refine at_inBlock ?_
            refine at_region ?_
            refine wl_read rfl rfl rfl (yl_move rfl rfl) ?_
            refine wl_read rfl rfl rfl (yl_add rfl rfl rfl (w64 (by omega) (by omega))) ?_
            refine wl_read rfl rfl rfl (yl_assign rfl rfl) ?_
            refine wl_nil ?_
            refine at_keep (Keep.cons 0 rfl (Keep.cons 3 rfl (Keep.cons 4 rfl (Keep.cons 5 rfl (Keep.cons 6 rfl (Keep.cons 14 rfl (Keep.cons 50 rfl Keep.nil))))))) ?_
            exact at_keep (L' := (fun (A1 : Option Addr) (c1 : Nat) (k : Nat) => [(0, .slice A l.length c), (3, .int .i64 (mon l k)), (4, .slice A1 (ents l k).length c1), (5, .int .i64 (k : Int))]) A2 c2 (k + 1)) (Keep.consEq 0 rfl rfl (Keep.consEq 3 rfl rfl (Keep.consEq 4 rfl rfl (Keep.consEq 5 rfl rfl Keep.nil)))) (ih A2 c2 (k + 1) (by omega) (by omega))
          · intro h8_2
            refine wl_nil ?_
            refine at_keep (Keep.cons 0 rfl (Keep.cons 3 rfl (Keep.cons 4 rfl (Keep.cons 5 rfl (Keep.cons 6 rfl (Keep.cons 14 rfl (Keep.cons 50 rfl Keep.nil))))))) ?_
            refine at_false rfl ?_
            refine at_skip ?_
            have he : ent1 l k = (⟨mon l k + (md (at_ l k).gap 4 - (md (at_ l k).gap 40).tdiv 39), 1 + md (at_ l k).kind 3, 0, 0, am (at_ l k).amount⟩ : Entry) := by unfold ent1; rw [if_pos (Decidable.not_not.1 h8_2)]; rfl
            refine at_region ?_
            refine wl_read rfl rfl rfl (yl_move rfl rfl) ?_
            refine wl_read rfl rfl rfl (yl_loadBk 0 rfl rfl rfl Try.underlying33 rfl (by kernel_rfl)) ?_
            refine wl_eff rfl rfl rfl (ef_buildSlice (e := 33) [(⟨mon l k + (md (at_ l k).gap 4 - (md (at_ l k).gap 40).tdiv 39), 1 + md (at_ l k).kind 3, 0, 0, am (at_ l k).amount⟩ : Entry)] rfl rfl (fun _ => by kernel_rfl) rfl rfl) ?_
            rintro _ _ ⟨T10_2, rfl, rfl⟩
            refine wl_eff rfl rfl rfl (ef_append (ys := [(⟨mon l k + (md (at_ l k).gap 4 - (md (at_ l k).gap 40).tdiv 39), 1 + md (at_ l k).kind 3, 0, 0, am (at_ l k).amount⟩ : Entry)]) 2 rfl rfl rfl rfl (Rd.of_sl 0 rfl) Try.underlying27 info33 rfl rfl (by simp only [List.length_singleton, maxLen]; omega) (by simp only [List.length_singleton]; omega)) ?_
            rintro _ _ ⟨A2, c2, rfl, hH⟩
            simp only [List.set_cons_succ, List.set_cons_zero] at hH; subst hH
            rw [← he, ← ents_succ]
            refine wl_heap (fun _ hw => hw.tail.tail) ?_
            refine wl_read rfl rfl rfl (yl_assign rfl rfl) ?_
            refine wl_nil ?_
            refine at_keep (Keep.cons 0 rfl (Keep.cons 3 rfl (Keep.cons 4 rfl (Keep.cons 5 rfl (Keep.cons 6 rfl (Keep.cons 14 rfl (Keep.cons 50 rfl Keep.nil))))))) ?_
            refine at_inBlock ?_
            refine at_region ?_
            refine wl_read rfl rfl rfl (yl_move rfl rfl) ?_
            refine wl_read rfl rfl rfl (yl_add rfl rfl rfl (w64 (by omega) (by omega))) ?_
            refine wl_read rfl rfl rfl (yl_assign rfl rfl) ?_
            refine wl_nil ?_
            refine at_keep (Keep.cons 0 rfl (Keep.cons 3 rfl (Keep.cons 4 rfl (Keep.cons 5 rfl (Keep.cons 6 rfl (Keep.cons 14 rfl (Keep.cons 50 rfl Keep.nil))))))) ?_
            exact at_keep (L' := (fun (A1 : Option Addr) (c1 : Nat) (k : Nat) => [(0, .slice A l.length c), (3, .int .i64 (mon l k)), (4, .slice A1 (ents l k).length c1), (5, .int .i64 (k : Int))]) A2 c2 (k + 1)) (Keep.consEq 0 rfl rfl (Keep.consEq 3 rfl rfl (Keep.consEq 4 rfl rfl (Keep.consEq 5 rfl rfl Keep.nil)))) (ih A2 c2 (k + 1) (by omega) (by omega))
      ·
        refine wt_eff rfl rfl rfl rfl (ef_alloc (cs := [.int .i64 0, .int .i64 0, .int .i64 0, .int .i64 0, .int .i64 0]) (z := .agg #[.int .i64 0, .int .i64 0, .int .i64 0, .int .i64 0, .int .i64 0]) rfl (by kernel_rfl) rfl) ?_
        rintro _ _ ⟨ge, rfl, rfl⟩
        refine ⟨⟨[_], rfl⟩, ?_⟩
        refine wt_call rfl rfl rfl rfl (en_call rfl rfl) (mod_fn _ _ _ _ (by decide) (by decide)) ?_
        rintro _ _ ⟨rfl, rfl⟩
        refine ⟨⟨[_], rfl⟩, ?_⟩
        refine wt_read rfl rfl rfl rfl (yl_add rfl rfl rfl (w64 (by omega) (by omega))) ?_
        refine wt_call rfl rfl rfl rfl (en_call rfl rfl) (amount_fn _ _ _ (ha k hk1)) ?_
        rintro _ _ ⟨rfl, rfl⟩
        refine ⟨⟨[_], rfl⟩, ?_⟩
        refine wt_read rfl rfl rfl rfl (yl_build (cs := [.int .i64 (mon l k + (md (at_ l k).gap 4 - (md (at_ l k).gap 40).tdiv 39)), .int .i64 (1 + md (at_ l k).kind 3), .int .i64 0, .int .i64 0, .int .i64 (am (at_ l k).amount)]) rfl rfl (fun _ => by kernel_rfl)) ?_
        refine wt_store rfl rfl rfl (es_at0 (es_storeN 0 rfl rfl rfl rfl (by kernel_rfl) rfl rfl)) ⟨[_], rfl⟩ ?_
        refine wt_nil ?_
        refine at_keep (Keep.cons 0 rfl (Keep.cons 3 rfl (Keep.cons 4 rfl (Keep.cons 5 rfl (Keep.cons 6 rfl (Keep.cons 14 rfl Keep.nil)))))) ?_
        refine at_seq ?_
        refine at_seq ?_
        refine at_region ?_
        refine wl_read rfl rfl rfl (yl_fieldB rfl rfl Try.underlying33 rfl (by kernel_rfl) rfl) ?_
        refine wl_read rfl rfl rfl (yl_load rfl rfl Try.underlying3 rfl (CellAt.bk 0 rfl rfl)) ?_
        refine wl_split rfl rfl rfl (yp_neq rfl rfl rfl) ?_ ?_
        · intro h8_2
          refine wl_nil ?_
          refine at_keep (Keep.cons 0 rfl (Keep.cons 3 rfl (Keep.cons 4 rfl (Keep.cons 5 rfl (Keep.cons 6 rfl (Keep.cons 14 rfl (Keep.cons 50 rfl Keep.nil))))))) ?_
          refine at_true rfl ?_
          refine at_draw1 (.fl 0 (.fl 1 (.fl 2 (.fl 3 (.fl 4 (.fl 6 (.fl 7 (.fl 8 (.fl 9 (.fl 10 (.ef 5 (.fl 13 (.ef 11 (.fl 12 (.ef 14 (.fl 15 (.ef 16 .nil))))))))))))))))) (by kernel_rfl) (by kernel_rfl) ?_
          refine wt_read rfl rfl rfl rfl (yl_move rfl rfl) ?_
          refine wt_read rfl rfl rfl rfl (yl_move rfl rfl) ?_
          refine wt_read rfl rfl rfl rfl (yl_index rfl rfl rfl (hR.cons _) (at_some hk1) rfl rfl Try.underlying22 (by kernel_rfl) rfl) ?_
          refine wt_read rfl rfl rfl rfl (yl_field rfl rfl Try.underlying56 rfl (by kernel_rfl) rfl) ?_
          refine wt_read rfl rfl rfl rfl (yl_load rfl rfl Try.underlying3 rfl ((hR.cons _).cell2 (at_some hk1) rfl)) ?_
          refine wt_read rfl rfl rfl rfl (yl_move rfl rfl) ?_
          refine wt_read rfl rfl rfl rfl (yl_move rfl rfl) ?_
          refine wt_read rfl rfl rfl rfl (yl_index rfl rfl rfl (hR.cons _) (at_some hk1) rfl rfl Try.underlying22 (by kernel_rfl) rfl) ?_
          refine wt_read rfl rfl rfl rfl (yl_field rfl rfl Try.underlying56 rfl (by kernel_rfl) rfl) ?_
          refine wt_read rfl rfl rfl rfl (yl_load rfl rfl Try.underlying3 rfl ((hR.cons _).cell2 (at_some hk1) rfl)) ?_
          refine wt_call rfl rfl rfl rfl (en_call rfl rfl) (mod_fn _ _ _ _ (by decide) (by decide)) ?_
          rintro _ _ ⟨rfl, rfl⟩
          refine ⟨⟨[_], rfl⟩, ?_⟩
          refine wt_read rfl rfl rfl rfl (yl_fieldB rfl rfl Try.underlying33 rfl (by kernel_rfl) rfl) ?_
          refine wt_call rfl rfl rfl rfl (en_call rfl rfl) (mod_fn _ _ _ _ (by decide) (by decide)) ?_
          rintro _ _ ⟨rfl, rfl⟩
          refine ⟨⟨[_], rfl⟩, ?_⟩
          refine wt_read rfl rfl rfl rfl (yl_add rfl rfl rfl (w64 (by omega) (by omega))) ?_
          refine wt_store rfl rfl rfl (es_at0 (es_store 0 rfl rfl rfl rfl (by kernel_rfl) rfl rfl)) ⟨[_], rfl⟩ ?_
          refine wt_read rfl rfl rfl rfl (yl_fieldB rfl rfl Try.underlying33 rfl (by kernel_rfl) rfl) ?_
          refine wt_store rfl rfl rfl (es_at0 (es_store 0 rfl rfl rfl rfl (by kernel_rfl) rfl rfl)) ⟨[_], rfl⟩ ?_
          refine wt_nil ?_
          refine at_keep (Keep.cons 0 rfl (Keep.cons 3 rfl (Keep.cons 4 rfl (Keep.cons 5 rfl (Keep.cons 6 rfl (Keep.cons 14 rfl (Keep.cons 50 rfl Keep.nil))))))) ?_
          have he : ent1 l k = (⟨mon l k + (md (at_ l k).gap 4 - (md (at_ l k).gap 40).tdiv 39), 1 + md (at_ l k).kind 3, md (at_ l k).with_ 6, 1 + md (at_ l k).number 20, am (at_ l k).amount⟩ : Entry) := by unfold ent1; rw [if_neg h8_2]; rfl
          refine at_region ?_
          refine wl_read rfl rfl rfl (yl_move rfl rfl) ?_
          refine wl_read rfl rfl rfl (yl_loadBk 0 rfl rfl rfl Try.underlying33 rfl (by kernel_rfl)) ?_
          refine wl_eff rfl rfl rfl (ef_buildSlice (e := 33) [(⟨mon l k + (md (at_ l k).gap 4 - (md (at_ l k).gap 40).tdiv 39), 1 + md (at_ l k).kind 3, md (at_ l k).with_ 6, 1 + md (at_ l k).number 20, am (at_ l k).amount⟩ : Entry)] rfl rfl (fun _ => by kernel_rfl) rfl rfl) ?_
          rintro _ _ ⟨T10_2, rfl, rfl⟩
          refine wl_eff rfl rfl rfl (ef_append (ys := [(⟨mon l k + (md (at_ l k).gap 4 - (md (at_ l k).gap 40).tdiv 39), 1 + md (at_ l k).kind 3, md (at_ l k).with_ 6, 1 + md (at_ l k).number 20, am (at_ l k).amount⟩ : Entry)]) 2 rfl rfl rfl rfl (Rd.of_sl 0 rfl) Try.underlying27 info33 rfl rfl (by simp only [List.length_singleton, maxLen]; omega) (by simp only [List.length_singleton]; omega)) ?_
          rintro _ _ ⟨A2, c2, rfl, hH⟩
          simp only [List.set_cons_succ, List.set_cons_zero] at hH; subst hH
          rw [← he, ← ents_succ]
          refine wl_heap (fun _ hw => hw.tail.tail) ?_
          refine wl_read rfl rfl rfl (yl_assign rfl rfl) ?_
          refine wl_nil ?_
          refine at_keep (Keep.cons 0 rfl (Keep.cons 3 rfl (Keep.cons 4 rfl (Keep.cons 5 rfl (Keep.cons 6 rfl (Keep.cons 14 rfl (Keep.cons 50 rfl Keep.nil))))))) ?_
          refine at_inBlock ?_
          refine at_region ?_
          refine wl_read rfl rfl rfl (yl_move rfl rfl) ?_
          refine wl_read rfl rfl rfl (yl_add rfl rfl rfl (w64 (by omega) (by omega))) ?_
          refine wl_read rfl rfl rfl (yl_assign rfl rfl) ?_
          refine wl_nil ?_
          refine at_keep (Keep.cons 0 rfl (Keep.cons 3 rfl (Keep.cons 4 rfl (Keep.cons 5 rfl (Keep.cons 6 rfl (Keep.cons 14 rfl (Keep.cons 50 rfl Keep.nil))))))) ?_
          exact at_keep (L' := (fun (A1 : Option Addr) (c1 : Nat) (k : Nat) => [(0, .slice A l.length c), (3, .int .i64 (mon l k)), (4, .slice A1 (ents l k).length c1), (5, .int .i64 (k : Int))]) A2 c2 (k + 1)) (Keep.consEq 0 rfl rfl (Keep.consEq 3 rfl rfl (Keep.consEq 4 rfl rfl (Keep.consEq 5 rfl rfl Keep.nil)))) (ih A2 c2 (k + 1) (by omega) (by omega))
        · intro h8_2
          refine wl_nil ?_
          refine at_keep (Keep.cons 0 rfl (Keep.cons 3 rfl (Keep.cons 4 rfl (Keep.cons 5 rfl (Keep.cons 6 rfl (Keep.cons 14 rfl (Keep.cons 50 rfl Keep.nil))))))) ?_
          refine at_false rfl ?_
          refine at_skip ?_
          have he : ent1 l k = (⟨mon l k + (md (at_ l k).gap 4 - (md (at_ l k).gap 40).tdiv 39), 1 + md (at_ l k).kind 3, 0, 0, am (at_ l k).amount⟩ : Entry) := by unfold ent1; rw [if_pos (Decidable.not_not.1 h8_2)]; rfl
          refine at_region ?_
          refine wl_read rfl rfl rfl (yl_move rfl rfl) ?_
          refine wl_read rfl rfl rfl (yl_loadBk 0 rfl rfl rfl Try.underlying33 rfl (by kernel_rfl)) ?_
          refine wl_eff rfl rfl rfl (ef_buildSlice (e := 33) [(⟨mon l k + (md (at_ l k).gap 4 - (md (at_ l k).gap 40).tdiv 39), 1 + md (at_ l k).kind 3, 0, 0, am (at_ l k).amount⟩ : Entry)] rfl rfl (fun _ => by kernel_rfl) rfl rfl) ?_
          rintro _ _ ⟨T10_2, rfl, rfl⟩
          refine wl_eff rfl rfl rfl (ef_append (ys := [(⟨mon l k + (md (at_ l k).gap 4 - (md (at_ l k).gap 40).tdiv 39), 1 + md (at_ l k).kind 3, 0, 0, am (at_ l k).amount⟩ : Entry)]) 2 rfl rfl rfl rfl (Rd.of_sl 0 rfl) Try.underlying27 info33 rfl rfl (by simp only [List.length_singleton, maxLen]; omega) (by simp only [List.length_singleton]; omega)) ?_
          rintro _ _ ⟨A2, c2, rfl, hH⟩
          simp only [List.set_cons_succ, List.set_cons_zero] at hH; subst hH
          rw [← he, ← ents_succ]
          refine wl_heap (fun _ hw => hw.tail.tail) ?_
          refine wl_read rfl rfl rfl (yl_assign rfl rfl) ?_
          refine wl_nil ?_
          refine at_keep (Keep.cons 0 rfl (Keep.cons 3 rfl (Keep.cons 4 rfl (Keep.cons 5 rfl (Keep.cons 6 rfl (Keep.cons 14 rfl (Keep.cons 50 rfl Keep.nil))))))) ?_
          refine at_inBlock ?_
          refine at_region ?_
          refine wl_read rfl rfl rfl (yl_move rfl rfl) ?_
          refine wl_read rfl rfl rfl (yl_add rfl rfl rfl (w64 (by omega) (by omega))) ?_
          refine wl_read rfl rfl rfl (yl_assign rfl rfl) ?_
          refine wl_nil ?_
          refine at_keep (Keep.cons 0 rfl (Keep.cons 3 rfl (Keep.cons 4 rfl (Keep.cons 5 rfl (Keep.cons 6 rfl (Keep.cons 14 rfl (Keep.cons 50 rfl Keep.nil))))))) ?_
          exact at_keep (L' := (fun (A1 : Option Addr) (c1 : Nat) (k : Nat) => [(0, .slice A l.length c), (3, .int .i64 (mon l k)), (4, .slice A1 (ents l k).length c1), (5, .int .i64 (k : Int))]) A2 c2 (k + 1)) (Keep.consEq 0 rfl rfl (Keep.consEq 3 rfl rfl (Keep.consEq 4 rfl rfl (Keep.consEq 5 rfl rfl Keep.nil)))) (ih A2 c2 (k + 1) (by omega) (by omega))
    · intro h4_6
      refine wl_read rfl rfl rfl (yl_pickT rfl rfl rfl) ?_
      refine wl_nil ?_
      refine at_keep (Keep.cons 0 rfl (Keep.cons 3 rfl (Keep.cons 4 rfl (Keep.cons 5 rfl (Keep.cons 14 rfl Keep.nil))))) ?_
      refine at_false rfl ?_
      refine at_exit rfl ?_
      refine at_seq ?_
      obtain rfl : k = min l.length 30 := by omega
      refine at_region ?_
      refine wl_read rfl rfl rfl (yl_move rfl rfl) ?_
      refine wl_read rfl rfl rfl (yl_assign rfl rfl) ?_
      refine wl_nil ?_
      refine at_keep (Keep.cons 0 rfl (Keep.cons 2 rfl (Keep.cons 3 rfl (Keep.cons 4 rfl (Keep.cons 5 rfl (Keep.cons 14 rfl Keep.nil)))))) ?_
      refine at_ret Try.func14 (res1 rfl rfl) ?_
      exact ⟨A1, c1, rfl, rfl⟩
  · intro h4_3
    refine wl_read rfl rfl rfl (yl_move rfl rfl) ?_
    refine wl_skip rfl rfl rfl ?_
    refine wl_skip rfl rfl rfl ?_
    refine wl_read rfl rfl rfl (yl_pickF rfl rfl rfl) ?_
    refine wl_nil ?_
    refine at_keep (Keep.cons 0 rfl (Keep.cons 3 rfl (Keep.cons 4 rfl (Keep.cons 5 rfl (Keep.cons 14 rfl Keep.nil))))) ?_
    refine at_false rfl ?_
    refine at_exit rfl ?_
    refine at_seq ?_
    obtain rfl : k = min l.length 30 := by omega
    refine at_region ?_
    refine wl_read rfl rfl rfl (yl_move rfl rfl) ?_
    refine wl_read rfl rfl rfl (yl_assign rfl rfl) ?_
    refine wl_nil ?_
    refine at_keep (Keep.cons 0 rfl (Keep.cons 2 rfl (Keep.cons 3 rfl (Keep.cons 4 rfl (Keep.cons 5 rfl (Keep.cons 14 rfl Keep.nil)))))) ?_
    refine at_ret Try.func14 (res1 rfl rfl) ?_
    exact ⟨A1, c1, rfl, rfl⟩
theorem play_fn (es l : List Entry) (g : Nat) (A : Option Addr) (c : Nat) (b : World) (H : List Asr) (hg : Good es) (hl : es.length + l.length ≤ 999) (hR : Rd H A l) : Fn Try.prog 13 [.pointer (some ⟨g, 0, none⟩), .slice A l.length c] b (Acc g es :: H)
    (fun v H' => ∃ A' c', v = .slice A' (errs es l).length c' ∧ H' = Sl A' c' 35 (errs es l) :: Acc g (posts es l) :: H) := by
  refine fn_of_at (by kernel_rfl) Try.func13 rfl Try.ntmps13 rfl rfl ?_
  refine at_seq ?_
  refine at_region ?_
  refine wl_read rfl rfl rfl (yl_assign rfl rfl) ?_
  refine wl_nil ?_
  refine at_keep (Keep.cons 0 rfl (Keep.cons 1 rfl (Keep.cons 4 rfl Keep.nil))) ?_
  refine at_seq ?_
  refine at_region ?_
  refine wl_read rfl rfl rfl (yl_assign rfl rfl) ?_
  refine wl_nil ?_
  refine at_keep (Keep.cons 0 rfl (Keep.cons 1 rfl (Keep.cons 4 rfl (Keep.cons 5 rfl Keep.nil)))) ?_
  refine at_seq ?_
  refine at_seq ?_
  refine at_region ?_
  refine wl_read rfl rfl rfl (yl_assign rfl rfl) ?_
  refine wl_nil ?_
  refine at_keep (Keep.cons 0 rfl (Keep.cons 1 rfl (Keep.cons 4 rfl (Keep.cons 5 rfl (Keep.cons 6 rfl Keep.nil))))) ?_
  refine at_block ?_
  refine at_keep (L' := (fun (A1 : Option Addr) (c1 : Nat) (k : Nat) => [(0, .pointer (some ⟨g, 0, none⟩)), (1, .slice A l.length c), (5, .slice A1 (errsN es l k).length c1), (6, .int .i64 (k : Int))]) none 0 0) (Keep.consEq 0 rfl rfl (Keep.consEq 1 rfl rfl (Keep.consEq 5 rfl rfl (Keep.consEq 6 rfl rfl Keep.nil)))) ?_
  refine at_heap (fun _ hw => (hw.nilSl (α := Int) 35).front1) ?_
  refine at_loop3 (fun (A1 : Option Addr) (c1 : Nat) (k : Nat) => k ≤ l.length) (fun (A1 : Option Addr) (c1 : Nat) (k : Nat) => [(0, .pointer (some ⟨g, 0, none⟩)), (1, .slice A l.length c), (5, .slice A1 (errsN es l k).length c1), (6, .int .i64 (k : Int))]) (fun (A1 : Option Addr) (c1 : Nat) (k : Nat) => Acc g (postsN es l k) :: Sl A1 c1 35 (errsN es l k) :: H) (fun (A1 : Option Addr) (c1 : Nat) (k : Nat) => l.length - k) none 0 0 (by omega) ?_
  intro A1 c1 k hI ih
  have hel := errsN_length es l k
  have hpl := postsN_length es l k
  have hgk := hg.posts l k
  refine at_seq ?_
  refine at_seq ?_
  refine at_region ?_
  refine wl_read rfl rfl rfl (yl_move rfl rfl) ?_
  refine wl_read rfl rfl rfl (yl_move rfl rfl) ?_
  refine wl_read rfl rfl rfl (yl_len rfl rfl Try.underlying27) ?_
  refine wl_split rfl rfl rfl (yp_lss rfl rfl rfl) ?_ ?_
  · intro h3_3
    refine wl_nil ?_
    refine at_keep (Keep.cons 0 rfl (Keep.cons 1 rfl (Keep.cons 5 rfl (Keep.cons 6 rfl (Keep.cons 10 rfl Keep.nil))))) ?_
    refine at_true rfl ?_
    refine at_skip ?_
    refine at_seq ?_
    refine at_block ?_
    have hk1 : k < l.length := by omega
    refine at_region ?_
    refine wl_read rfl rfl rfl (yl_move rfl rfl) ?_
    refine wl_read rfl rfl rfl (yl_move rfl rfl) ?_
    refine wl_read rfl rfl rfl (yl_move rfl rfl) ?_
    refine wl_read rfl rfl rfl (yl_move rfl rfl) ?_
    refine wl_read rfl rfl rfl (yl_index rfl rfl rfl ((hR.cons _).cons _) (at_some hk1) rfl rfl Try.underlying27 (by kernel_rfl) rfl) ?_
    refine wl_read rfl rfl rfl (yl_loadRow rfl rfl ((hR.cons _).cons _) (at_some hk1) Try.underlying33 rfl (by kernel_rfl) rfl) ?_
    refine wl_call rfl rfl rfl (en_call rfl rfl) (post_fn _ (at_ l k) g _ _ hgk (by omega)) ?_
    rintro _ _ ⟨rfl, rfl⟩
    refine wl_eff rfl rfl rfl (ef_buildSlice (e := 35) [perr (postsN es l k) (at_ l k)] rfl rfl (fun _ => by kernel_rfl) rfl rfl) ?_
    rintro _ _ ⟨T5_7, rfl, rfl⟩
    refine wl_eff rfl rfl rfl (ef_append (ys := [perr (postsN es l k) (at_ l k)]) 2 rfl rfl rfl rfl (Rd.of_sl 0 rfl) Try.underlying25 info35 rfl rfl (by simp only [List.length_singleton, maxLen]; omega) (by simp only [List.length_singleton]; omega)) ?_
    rintro _ _ ⟨A2, c2, rfl, hH⟩
    simp only [List.set_cons_succ, List.set_cons_zero] at hH; subst hH
    rw [← errsN_succ]
    refine wl_heap (fun _ hw => hw.tail) ?_
    refine wl_read rfl rfl rfl (yl_assign rfl rfl) ?_
    refine wl_nil ?_
    refine at_keep (Keep.cons 0 rfl (Keep.cons 1 rfl (Keep.cons 5 rfl (Keep.cons 6 rfl (Keep.cons 10 rfl Keep.nil))))) ?_
    refine at_inBlock ?_
    refine at_region ?_
    refine wl_read rfl rfl rfl (yl_move rfl rfl) ?_
    refine wl_read rfl rfl rfl (yl_add rfl rfl rfl (w64 (by omega) (by omega))) ?_
    refine wl_read rfl rfl rfl (yl_assign rfl rfl) ?_
    refine wl_nil ?_
    refine at_keep (Keep.cons 0 rfl (Keep.cons 1 rfl (Keep.cons 5 rfl (Keep.cons 6 rfl (Keep.cons 10 rfl Keep.nil))))) ?_
    exact at_keep (L' := (fun (A1 : Option Addr) (c1 : Nat) (k : Nat) => [(0, .pointer (some ⟨g, 0, none⟩)), (1, .slice A l.length c), (5, .slice A1 (errsN es l k).length c1), (6, .int .i64 (k : Int))]) A2 c2 (k + 1)) (Keep.consEq 0 rfl rfl (Keep.consEq 1 rfl rfl (Keep.consEq 5 rfl rfl (Keep.consEq 6 rfl rfl Keep.nil)))) (ih A2 c2 (k + 1) (by omega) (by omega))
  · intro h3_3
    refine wl_nil ?_
    refine at_keep (Keep.cons 0 rfl (Keep.cons 1 rfl (Keep.cons 5 rfl (Keep.cons 6 rfl (Keep.cons 10 rfl Keep.nil))))) ?_
    refine at_false rfl ?_
    refine at_exit rfl ?_
    refine at_seq ?_
    obtain rfl : k = l.length := by omega
    refine at_region ?_
    refine wl_read rfl rfl rfl (yl_move rfl rfl) ?_
    refine wl_read rfl rfl rfl (yl_assign rfl rfl) ?_
    refine wl_nil ?_
    refine at_keep (Keep.cons 0 rfl (Keep.cons 1 rfl (Keep.cons 4 rfl (Keep.cons 5 rfl (Keep.cons 6 rfl (Keep.cons 10 rfl Keep.nil)))))) ?_
    refine at_retH (fun _ hw => hw.front1) Try.func13 (res1 rfl rfl) ?_
    exact ⟨A1, c1, rfl, rfl⟩
theorem both_fn (es : List Entry) (g r : Nat) (b : World) (H : List Asr) (hg : Good es) (hl : es.length ≤ 1000) : Fn Try.prog 23 [.pointer (some ⟨g, 0, none⟩), .pointer (some ⟨r, 0, none⟩)] b (Acc g es :: RAcc r es :: H)
    (fun v H' => v = .bool true ∧ Acc g es :: RAcc r es :: H = H') := by
  refine Fn.open_ (ι := Option Addr × Nat) (Hi := fun x => Acc g es :: Bk r 45 [.slice x.1 es.length x.2] :: Sl x.1 x.2 33 es :: H) (none, 0) (fun w hw => ?_) (fun x => ?_)
  · obtain ⟨x, hx⟩ := RAcc.opens hw.front1
    exact ⟨x, hx.front2⟩
  obtain ⟨A, c⟩ := x
  refine Fn.pre ?_ (fun _ hw => hw)
  refine fn_of_at (by kernel_rfl) Try.func23 rfl Try.ntmps23 rfl rfl ?_
  refine at_seq ?_
  refine at_region ?_
  refine wl_read rfl rfl rfl (yl_assign rfl rfl) ?_
  refine wl_nil ?_
  refine at_keep (Keep.cons 0 rfl (Keep.cons 1 rfl (Keep.cons 4 rfl Keep.nil))) ?_
  refine at_seq ?_
  refine at_draw0 (.fl 0 (.fl 2 (.ef 1 (.ef 3 (.fl 4 (.fl 5 (.fl 6 (.fl 8 (.ef 7 (.ef 9 (.fl 10 (.fl 11 (.fl 12 (.fl 13 (.fl 15 (.ef 14 (.ef 16 (.fl 17 (.fl 18 (.fl 19 (.fl 20 (.fl 22 (.ef 21 (.ef 23 (.fl 24 (.fl 25 (.fl 26 (.fl 27 (.fl 29 (.fl 30 (.fl 31 (.fl 32 (.ef 28 (.ef 33 (.fl 34 (.fl 35 .nil)))))))))))))))))))))))))))))))))))) (by kernel_rfl) (by kernel_rfl) ?_
  refine wt_read rfl rfl rfl rfl (yl_move rfl rfl) ?_
  refine wt_read rfl rfl rfl rfl (yl_move rfl rfl) ?_
  refine wt_call rfl rfl rfl rfl (en_call rfl rfl) (settled_fn es g _ _) ?_
  rintro _ _ ⟨rfl, rfl⟩
  refine ⟨⟨[], rfl⟩, ?_⟩
  refine wt_call rfl rfl rfl rfl (en_call rfl rfl) (rsettled_at es r _ _ hg hl (CellAt.bk 1 rfl rfl) (Rd.of_sl 2 rfl)) ?_
  rintro _ _ ⟨rfl, rfl⟩
  refine ⟨⟨[], rfl⟩, ?_⟩
  refine wt_read rfl rfl rfl rfl ((yp_eql rfl rfl rfl).1 rfl) ?_
  refine wt_read rfl rfl rfl rfl (yl_move rfl rfl) ?_
  refine wt_read rfl rfl rfl rfl (yl_move rfl rfl) ?_
  refine wt_read rfl rfl rfl rfl (yl_move rfl rfl) ?_
  refine wt_call rfl rfl rfl rfl (en_call rfl rfl) (sum_fn es g _ _ 1 hg hl) ?_
  rintro _ _ ⟨rfl, rfl⟩
  refine ⟨⟨[], rfl⟩, ?_⟩
  refine wt_call rfl rfl rfl rfl (en_call rfl rfl) (rsum_at es r _ _ 1 hg hl (CellAt.bk 1 rfl rfl) (Rd.of_sl 2 rfl)) ?_
  rintro _ _ ⟨rfl, rfl⟩
  refine ⟨⟨[], rfl⟩, ?_⟩
  refine wt_read rfl rfl rfl rfl ((yp_eql rfl rfl rfl).1 rfl) ?_
  refine wt_read rfl rfl rfl rfl (yl_pickT rfl rfl rfl) ?_
  refine wt_read rfl rfl rfl rfl (yl_move rfl rfl) ?_
  refine wt_read rfl rfl rfl rfl (yl_move rfl rfl) ?_
  refine wt_read rfl rfl rfl rfl (yl_move rfl rfl) ?_
  refine wt_call rfl rfl rfl rfl (en_call rfl rfl) (sum_fn es g _ _ 2 hg hl) ?_
  rintro _ _ ⟨rfl, rfl⟩
  refine ⟨⟨[], rfl⟩, ?_⟩
  refine wt_call rfl rfl rfl rfl (en_call rfl rfl) (rsum_at es r _ _ 2 hg hl (CellAt.bk 1 rfl rfl) (Rd.of_sl 2 rfl)) ?_
  rintro _ _ ⟨rfl, rfl⟩
  refine ⟨⟨[], rfl⟩, ?_⟩
  refine wt_read rfl rfl rfl rfl ((yp_eql rfl rfl rfl).1 rfl) ?_
  refine wt_read rfl rfl rfl rfl (yl_pickT rfl rfl rfl) ?_
  refine wt_read rfl rfl rfl rfl (yl_move rfl rfl) ?_
  refine wt_read rfl rfl rfl rfl (yl_move rfl rfl) ?_
  refine wt_read rfl rfl rfl rfl (yl_move rfl rfl) ?_
  refine wt_call rfl rfl rfl rfl (en_call rfl rfl) (sum_fn es g _ _ 3 hg hl) ?_
  rintro _ _ ⟨rfl, rfl⟩
  refine ⟨⟨[], rfl⟩, ?_⟩
  refine wt_call rfl rfl rfl rfl (en_call rfl rfl) (rsum_at es r _ _ 3 hg hl (CellAt.bk 1 rfl rfl) (Rd.of_sl 2 rfl)) ?_
  rintro _ _ ⟨rfl, rfl⟩
  refine ⟨⟨[], rfl⟩, ?_⟩
  refine wt_read rfl rfl rfl rfl ((yp_eql rfl rfl rfl).1 rfl) ?_
  refine wt_read rfl rfl rfl rfl (yl_pickT rfl rfl rfl) ?_
  refine wt_read rfl rfl rfl rfl (yl_move rfl rfl) ?_
  refine wt_read rfl rfl rfl rfl (yl_move rfl rfl) ?_
  refine wt_read rfl rfl rfl rfl (yl_move rfl rfl) ?_
  refine wt_read rfl rfl rfl rfl (yl_nilCheck rfl rfl) ?_
  refine wt_read rfl rfl rfl rfl (yl_fieldB rfl rfl Try.underlying45 rfl (by kernel_rfl) rfl) ?_
  refine wt_read rfl rfl rfl rfl (yl_load rfl rfl Try.underlying27 rfl (CellAt.bk 1 rfl rfl)) ?_
  refine wt_call rfl rfl rfl rfl (en_call rfl rfl) (entries_fn es g _ _ hl) ?_
  rintro _ _ ⟨A1, c1, rfl, rfl⟩
  refine ⟨⟨[_], rfl⟩, ?_⟩
  refine wt_call rfl rfl rfl rfl (en_call rfl rfl) (same_fn es es _ _ _ _ _ _ (Rd.of_sl 0 rfl) (Rd.of_sl 3 rfl) (by omega)) ?_
  rintro _ _ ⟨rfl, rfl⟩
  refine ⟨⟨[_], rfl⟩, ?_⟩
  rw [decide_eq_true rfl]
  refine wt_read rfl rfl rfl rfl (yl_pickT rfl rfl rfl) ?_
  refine wt_read rfl rfl rfl rfl (yl_assign rfl rfl) ?_
  refine wt_nil ?_
  refine at_keep (Keep.cons 0 rfl (Keep.cons 1 rfl (Keep.cons 4 rfl Keep.nil))) ?_
  refine at_retH (fun _ hw => (RAcc.closes hw.tail.down2).front1) Try.func23 (res1 rfl rfl) ?_
  exact ⟨rfl, rfl⟩
def aw : List Entry := [⟨5, 1, 0, 0, 100⟩, ⟨5, 3, 2, 1, 30⟩, ⟨6, 2, 3, 4, 20⟩]
theorem aw_posts : posts [] aw = aw := by decide
theorem aw_errs : errs [] aw = [0, 0, 0] := by decide
theorem aw_good : Good aw := by have := Good.nil.posts aw aw.length; have e : postsN [] aw aw.length = aw := aw_posts; rwa [e] at this
theorem aw_stl : stl aw = 90 := by decide
theorem aw_cnt : 0 < cnt aw (3, 2, 1) := by decide
theorem play_aw (g : Nat) (A : Option Addr) (c : Nat) (b : World) (H : List Asr) (hR : Rd H A aw) : Fn Try.prog 13 [.pointer (some ⟨g, 0, none⟩), .slice A aw.length c] b (Acc g [] :: H)
    (fun v H' => ∃ A' c', v = .slice A' ([0, 0, 0] : List Int).length c' ∧ H' = Sl A' c' 35 ([0, 0, 0] : List Int) :: Acc g aw :: H) := by
  have := play_fn [] aw g A c b H Good.nil (by decide) hR
  rwa [aw_posts, aw_errs] at this
theorem settled_aw (g : Nat) (b : World) (H : List Asr) : Fn Try.prog 16 [.pointer (some ⟨g, 0, none⟩)] b (Acc g aw :: H) (fun v H' => v = .int .i64 90 ∧ Acc g aw :: H = H') := by
  have := settled_fn aw g b H
  rwa [aw_stl] at this
theorem balance_aw (g : Nat) (b : World) (H : List Asr) : Fn Try.prog 21 [.pointer (some ⟨g, 0, none⟩), .int .i64 120] b (Acc g aw :: H) (fun v H' => v = .tuple #[.int .i64 30, .int .i64 0] ∧ Acc g aw :: H = H') := by
  have := balance_ok aw g b H (by rw [aw_stl]; decide) 120 (by decide)
  rwa [aw_stl] at this
theorem has_aw (g : Nat) (b : World) (H : List Asr) : Fn Try.prog 20 [.pointer (some ⟨g, 0, none⟩), .int .i64 3, .int .i64 2, .int .i64 1] b (Acc g aw :: H) (fun v H' => v = .bool true ∧ Acc g aw :: H = H') := by
  have := has_fn aw g b H (3, 2, 1)
  rwa [decide_eq_true aw_cnt] at this
theorem awake_fn (b : World) (H : List Asr) : Fn Try.prog 18 [] b H (fun v H' => v = .bool true ∧ H = H') := by
  refine fn_of_at (by kernel_rfl) Try.func18 rfl Try.ntmps18 rfl rfl ?_
  refine at_seq ?_
  refine at_region ?_
  refine wl_read rfl rfl rfl (yl_assign rfl rfl) ?_
  refine wl_nil ?_
  refine at_keep (Keep.cons 0 rfl Keep.nil) ?_
  refine at_seq ?_
  refine at_region ?_
  refine wl_call rfl rfl rfl (en_call rfl rfl) (new_fn _ _) ?_
  rintro _ _ ⟨g, rfl, rfl⟩
  refine wl_read rfl rfl rfl (yl_assign rfl rfl) ?_
  refine wl_nil ?_
  refine at_keep (Keep.cons 0 rfl (Keep.cons 1 rfl Keep.nil)) ?_
  refine at_seq ?_
  refine at_region ?_
  refine wl_read rfl rfl rfl (yl_move rfl rfl) ?_
  refine wl_read rfl rfl rfl (yl_build (cs := Enc.cells (at_ aw 0)) rfl rfl (fun _ => by kernel_rfl)) ?_
  refine wl_read rfl rfl rfl (yl_build (cs := Enc.cells (at_ aw 1)) rfl rfl (fun _ => by kernel_rfl)) ?_
  refine wl_read rfl rfl rfl (yl_build (cs := Enc.cells (at_ aw 2)) rfl rfl (fun _ => by kernel_rfl)) ?_
  refine wl_eff rfl rfl rfl (ef_buildSlice (e := 33) aw rfl rfl (fun _ => by kernel_rfl) rfl rfl) ?_
  rintro _ _ ⟨T2_4, rfl, rfl⟩
  refine wl_heap (fun _ hw => hw.front1) ?_
  refine wl_call rfl rfl rfl (en_call rfl rfl) (play_aw g _ _ _ _ (Rd.of_sl 0 rfl)) ?_
  rintro _ _ ⟨A1, c1, rfl, rfl⟩
  refine wl_read rfl rfl rfl (yl_assign rfl rfl) ?_
  refine wl_nil ?_
  refine at_keep (Keep.cons 0 rfl (Keep.cons 1 rfl (Keep.cons 2 rfl Keep.nil))) ?_
  refine at_seq ?_
  refine at_region ?_
  refine wl_read rfl rfl rfl (yl_move rfl rfl) ?_
  refine wl_heap (fun _ hw => hw.front1) ?_
  refine wl_call rfl rfl rfl (en_call rfl rfl) (balance_aw g _ _) ?_
  rintro _ _ ⟨rfl, rfl⟩
  refine wl_read rfl rfl rfl (yl_move rfl rfl) ?_
  refine wl_read rfl rfl rfl (yl_extract rfl rfl rfl) ?_
  refine wl_read rfl rfl rfl (yl_extract rfl rfl rfl) ?_
  refine wl_read rfl rfl rfl (yl_assign rfl rfl) ?_
  refine wl_read rfl rfl rfl (yl_assign rfl rfl) ?_
  refine wl_nil ?_
  refine at_keep (Keep.cons 0 rfl (Keep.cons 1 rfl (Keep.cons 2 rfl (Keep.cons 3 rfl (Keep.cons 4 rfl Keep.nil))))) ?_
  refine at_seq ?_
  refine at_region ?_
  refine wl_read rfl rfl rfl (yl_move rfl rfl) ?_
  refine wl_read rfl rfl rfl (yl_len rfl rfl Try.underlying25) ?_
  refine wl_read rfl rfl rfl ((yp_eql rfl rfl rfl).1 rfl) ?_
  refine wl_read rfl rfl rfl (yl_move rfl rfl) ?_
  refine wl_read rfl rfl rfl (yl_move rfl rfl) ?_
  refine wl_read rfl rfl rfl (yl_index rfl rfl rfl (Rd.of_sl 1 rfl) (show ([0, 0, 0] : List Int)[0]? = some 0 from rfl) rfl rfl Try.underlying25 (by kernel_rfl) rfl) ?_
  refine wl_read rfl rfl rfl (yl_load rfl rfl Try.underlying35 rfl ((Rd.of_sl 1 rfl).cell (show ([0, 0, 0] : List Int)[0]? = some 0 from rfl) (i := 0) rfl)) ?_
  refine wl_read rfl rfl rfl ((yp_eql rfl rfl rfl).1 rfl) ?_
  refine wl_read rfl rfl rfl (yl_pickT rfl rfl rfl) ?_
  refine wl_read rfl rfl rfl (yl_move rfl rfl) ?_
  refine wl_read rfl rfl rfl (yl_move rfl rfl) ?_
  refine wl_read rfl rfl rfl (yl_index rfl rfl rfl (Rd.of_sl 1 rfl) (show ([0, 0, 0] : List Int)[1]? = some 0 from rfl) rfl rfl Try.underlying25 (by kernel_rfl) rfl) ?_
  refine wl_read rfl rfl rfl (yl_load rfl rfl Try.underlying35 rfl ((Rd.of_sl 1 rfl).cell (show ([0, 0, 0] : List Int)[1]? = some 0 from rfl) (i := 0) rfl)) ?_
  refine wl_read rfl rfl rfl ((yp_eql rfl rfl rfl).1 rfl) ?_
  refine wl_read rfl rfl rfl (yl_pickT rfl rfl rfl) ?_
  refine wl_read rfl rfl rfl (yl_move rfl rfl) ?_
  refine wl_read rfl rfl rfl (yl_move rfl rfl) ?_
  refine wl_read rfl rfl rfl (yl_index rfl rfl rfl (Rd.of_sl 1 rfl) (show ([0, 0, 0] : List Int)[2]? = some 0 from rfl) rfl rfl Try.underlying25 (by kernel_rfl) rfl) ?_
  refine wl_read rfl rfl rfl (yl_load rfl rfl Try.underlying35 rfl ((Rd.of_sl 1 rfl).cell (show ([0, 0, 0] : List Int)[2]? = some 0 from rfl) (i := 0) rfl)) ?_
  refine wl_read rfl rfl rfl ((yp_eql rfl rfl rfl).1 rfl) ?_
  refine wl_read rfl rfl rfl (yl_pickT rfl rfl rfl) ?_
  refine wl_read rfl rfl rfl (yl_move rfl rfl) ?_
  refine wl_read rfl rfl rfl (yl_move rfl rfl) ?_
  refine wl_call rfl rfl rfl (en_call rfl rfl) (settled_aw g _ _) ?_
  rintro _ _ ⟨rfl, rfl⟩
  refine wl_read rfl rfl rfl ((yp_eql rfl rfl rfl).1 rfl) ?_
  refine wl_read rfl rfl rfl (yl_pickT rfl rfl rfl) ?_
  refine wl_read rfl rfl rfl (yl_move rfl rfl) ?_
  refine wl_read rfl rfl rfl (yl_move rfl rfl) ?_
  refine wl_read rfl rfl rfl ((yp_eql rfl rfl rfl).1 rfl) ?_
  refine wl_read rfl rfl rfl (yl_pickT rfl rfl rfl) ?_
  refine wl_read rfl rfl rfl (yl_move rfl rfl) ?_
  refine wl_read rfl rfl rfl (yl_move rfl rfl) ?_
  refine wl_read rfl rfl rfl ((yp_eql rfl rfl rfl).1 rfl) ?_
  refine wl_read rfl rfl rfl (yl_pickT rfl rfl rfl) ?_
  refine wl_read rfl rfl rfl (yl_move rfl rfl) ?_
  refine wl_read rfl rfl rfl (yl_move rfl rfl) ?_
  refine wl_call rfl rfl rfl (en_call rfl rfl) (has_aw g _ _) ?_
  rintro _ _ ⟨rfl, rfl⟩
  refine wl_read rfl rfl rfl (yl_pickT rfl rfl rfl) ?_
  refine wl_read rfl rfl rfl (yl_move rfl rfl) ?_
  refine wl_read rfl rfl rfl (yl_move rfl rfl) ?_
  refine wl_call rfl rfl rfl (en_call rfl rfl) (entries_fn aw g _ _ (by decide)) ?_
  rintro _ _ ⟨A2, c2, rfl, rfl⟩
  refine wl_read rfl rfl rfl (yl_len rfl rfl Try.underlying27) ?_
  refine wl_read rfl rfl rfl ((yp_eql rfl rfl rfl).1 rfl) ?_
  refine wl_read rfl rfl rfl (yl_pickT rfl rfl rfl) ?_
  refine wl_read rfl rfl rfl (yl_assign rfl rfl) ?_
  refine wl_nil ?_
  refine at_keep (Keep.cons 0 rfl (Keep.cons 1 rfl (Keep.cons 2 rfl (Keep.cons 3 rfl (Keep.cons 4 rfl Keep.nil))))) ?_
  refine at_retH (fun _ hw => hw.tail.tail.tail.tail) Try.func18 (res1 rfl rfl) ?_
  exact ⟨rfl, rfl⟩
end Go.Proofs.Ytplaoddmgfcbcaa

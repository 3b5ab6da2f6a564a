/- Walks of the laws: one stage turned, Compress and At. -/
import Derived.Test.YteckaphnapljnaaS2
namespace Go.Proofs.Yteckaphnapljnaa
open Go

theorem run_badL {s : List Stage} {n : Nat} {A : Option Addr} {c : Nat} {b : World} {H : List Asr} (hn : ¬ Valid s) (hl : s.length = n) (hl2 : n ≤ 140737488355328) (hR : Rd H A s) :
    Fn Try.prog 15 [.slice A n c] b H (fun v H' => v = .tuple #[.slice none 0 0, .int .i64 1] ∧ H = H') := by
  subst hl; exact run_bad hn hR hl2
theorem law5 (l : List Raw) (A : Option Addr) (c : Nat) (month : Int) (at' by' what : Int) (b : World) (H : List Asr) (hR : Rd H A l) (hl : l.length ≤ 140737488355328) (ha : ∀ i, i < l.length → I64 (at_ l i).amount) : Fn Try.prog 5 [.slice A l.length c, .int .i64 month, .int .i64 at', .int .i64 by', .int .i64 what] b H (fun v H' => v = .bool true ∧ H = H') := by
  obtain ⟨s, hs⟩ : ∃ s, s = stages l month := ⟨_, rfl⟩
  have hv : Valid s := hs ▸ stages_valid l month
  have hl120 := hv.1
  have hd := md_bd by' 100 (by omega)
  refine fn_of_at (by kernel_rfl) Try.func5 rfl Try.ntmps5 rfl rfl ?_
  refine at_seq ?_
  refine at_region ?_
  refine wl_read rfl rfl rfl (yl_assign rfl rfl) ?_
  refine wl_nil ?_
  refine at_keep (Keep.cons 0 rfl (Keep.cons 1 rfl (Keep.cons 2 rfl (Keep.cons 3 rfl (Keep.cons 4 rfl (Keep.cons 10 rfl Keep.nil)))))) ?_
  refine at_seq ?_
  refine at_region ?_
  refine wl_read rfl rfl rfl (yl_move rfl rfl) ?_
  refine wl_read rfl rfl rfl (yl_move rfl rfl) ?_
  refine wl_call rfl rfl rfl (en_call rfl rfl) (stages_fnS hs hR hl ha) ?_
  rintro _ _ ⟨A1, c1, rfl, rfl⟩
  refine wl_read rfl rfl rfl (yl_assign rfl rfl) ?_
  refine wl_nil ?_
  refine at_keep (Keep.cons 0 rfl (Keep.cons 1 rfl (Keep.cons 2 rfl (Keep.cons 3 rfl (Keep.cons 4 rfl (Keep.cons 10 rfl (Keep.cons 11 rfl Keep.nil))))))) ?_
  refine at_seq ?_
  refine at_seq ?_
  refine at_region ?_
  refine wl_read rfl rfl rfl (yl_move rfl rfl) ?_
  refine wl_call rfl rfl rfl (en_call rfl rfl) (run_ok hv (Rd.of_sl 0 rfl)) ?_
  rintro _ _ ⟨A2, c2, rfl, rfl⟩
  refine wl_read rfl rfl rfl (yl_move rfl rfl) ?_
  refine wl_read rfl rfl rfl (yl_extract rfl rfl rfl) ?_
  refine wl_read rfl rfl rfl (yl_extract rfl rfl rfl) ?_
  refine wl_read rfl rfl rfl (yl_assign rfl rfl) ?_
  refine wl_read rfl rfl rfl (yl_assign rfl rfl) ?_
  refine wl_nil ?_
  refine at_keep (Keep.cons 0 rfl (Keep.cons 1 rfl (Keep.cons 2 rfl (Keep.cons 3 rfl (Keep.cons 4 rfl (Keep.cons 10 rfl (Keep.cons 11 rfl (Keep.cons 13 rfl Keep.nil)))))))) ?_
  refine at_seq ?_
  refine at_region ?_
  refine wl_read rfl rfl rfl (yl_move rfl rfl) ?_
  refine wl_read rfl rfl rfl ((yp_neq rfl rfl rfl).2 (by simp)) ?_
  refine wl_read rfl rfl rfl (yl_move rfl rfl) ?_
  refine wl_call rfl rfl rfl (en_call rfl rfl) (awake_fn _ _) ?_
  rintro _ _ ⟨rfl, rfl⟩
  refine wl_read rfl rfl rfl (yl_notT rfl rfl) ?_
  refine wl_read rfl rfl rfl (yl_pickF rfl rfl rfl) ?_
  refine wl_nil ?_
  refine at_keep (Keep.cons 0 rfl (Keep.cons 1 rfl (Keep.cons 2 rfl (Keep.cons 3 rfl (Keep.cons 4 rfl (Keep.cons 10 rfl (Keep.cons 11 rfl (Keep.cons 13 rfl (Keep.cons 31 rfl Keep.nil))))))))) ?_
  refine at_false rfl ?_
  refine at_skip ?_
  refine at_seq ?_
  refine at_seq ?_
  refine at_region ?_
  refine wl_read rfl rfl rfl (yl_move rfl rfl) ?_
  refine wl_read rfl rfl rfl (yl_len rfl rfl Try.underlying23) ?_
  refine wl_split rfl rfl rfl (yp_lss rfl rfl rfl) ?_ ?_
  · intro h5_2
    refine wl_nil ?_
    refine at_keep (Keep.cons 0 rfl (Keep.cons 1 rfl (Keep.cons 2 rfl (Keep.cons 3 rfl (Keep.cons 4 rfl (Keep.cons 10 rfl (Keep.cons 11 rfl (Keep.cons 13 rfl (Keep.cons 31 rfl (Keep.cons 34 rfl Keep.nil)))))))))) ?_
    refine at_true rfl ?_
    refine at_seq ?_
    refine at_region ?_
    refine wl_read rfl rfl rfl (yl_assign rfl rfl) ?_
    refine wl_nil ?_
    refine at_keep (Keep.cons 0 rfl (Keep.cons 1 rfl (Keep.cons 2 rfl (Keep.cons 3 rfl (Keep.cons 4 rfl (Keep.cons 10 rfl (Keep.cons 11 rfl (Keep.cons 13 rfl (Keep.cons 31 rfl (Keep.cons 34 rfl Keep.nil)))))))))) ?_
    refine at_retH (fun _ hw => hw.tail.tail) Try.func5 (res1 rfl rfl) ?_
    exact ⟨rfl, rfl⟩
  · intro h5_2
    refine wl_nil ?_
    refine at_keep (Keep.cons 0 rfl (Keep.cons 1 rfl (Keep.cons 2 rfl (Keep.cons 3 rfl (Keep.cons 4 rfl (Keep.cons 10 rfl (Keep.cons 11 rfl (Keep.cons 13 rfl (Keep.cons 31 rfl (Keep.cons 34 rfl Keep.nil)))))))))) ?_
    refine at_false rfl ?_
    refine at_skip ?_
    refine at_seq ?_
    have hmd := md_bd at' ((s.length : Int) - 1) (by omega)
    refine at_region ?_
    refine wl_read rfl rfl rfl (yl_move rfl rfl) ?_
    refine wl_read rfl rfl rfl (yl_move rfl rfl) ?_
    refine wl_read rfl rfl rfl (yl_len rfl rfl Try.underlying23) ?_
    refine wl_read rfl rfl rfl (yl_sub rfl rfl rfl (w64 (by omega) (by omega))) ?_
    refine wl_call rfl rfl rfl (en_call rfl rfl) (mod_fn _ _ _ _ (by omega) (by omega)) ?_
    rintro _ _ ⟨rfl, rfl⟩
    refine wl_read rfl rfl rfl (yl_add rfl rfl rfl (w64 (by omega) (by omega))) ?_
    refine wl_read rfl rfl rfl (yl_assign rfl rfl) ?_
    refine wl_nil ?_
    refine at_keep (Keep.cons 0 rfl (Keep.cons 1 rfl (Keep.cons 2 rfl (Keep.cons 3 rfl (Keep.cons 4 rfl (Keep.cons 10 rfl (Keep.cons 11 rfl (Keep.cons 13 rfl (Keep.cons 14 rfl (Keep.cons 31 rfl (Keep.cons 34 rfl Keep.nil))))))))))) ?_
    refine at_seq ?_
    obtain ⟨j, hj⟩ : ∃ j : Nat, 1 + md at' ((s.length : Int) - 1) = (j : Int) := ⟨_, (Int.toNat_of_nonneg (by omega)).symm⟩
    rw [hj]
    have hjl : j < s.length := by omega
    have hok := hv.2 j hjl
    unfold okSt at hok
    refine at_region ?_
    refine wl_read rfl rfl rfl (yl_move rfl rfl) ?_
    refine wl_call rfl rfl rfl (en_call rfl rfl) (mod_fn _ _ _ _ (by decide) (by decide)) ?_
    rintro _ _ ⟨rfl, rfl⟩
    refine wl_read rfl rfl rfl (yl_add rfl rfl rfl (w64 (by omega) (by omega))) ?_
    refine wl_read rfl rfl rfl (yl_assign rfl rfl) ?_
    refine wl_nil ?_
    refine at_keep (Keep.cons 0 rfl (Keep.cons 1 rfl (Keep.cons 2 rfl (Keep.cons 3 rfl (Keep.cons 4 rfl (Keep.cons 10 rfl (Keep.cons 11 rfl (Keep.cons 13 rfl (Keep.cons 14 rfl (Keep.cons 15 rfl (Keep.cons 31 rfl (Keep.cons 34 rfl Keep.nil)))))))))))) ?_
    refine at_seq ?_
    refine at_seq ?_
    refine at_region ?_
    refine wl_read rfl rfl rfl (yl_move rfl rfl) ?_
    refine wl_call rfl rfl rfl (en_call rfl rfl) (mod_fn _ _ _ _ (by decide) (by decide)) ?_
    rintro _ _ ⟨rfl, rfl⟩
    refine wl_nil ?_
    refine at_keep (Keep.cons 0 rfl (Keep.cons 1 rfl (Keep.cons 2 rfl (Keep.cons 3 rfl (Keep.cons 4 rfl (Keep.cons 10 rfl (Keep.cons 11 rfl (Keep.cons 13 rfl (Keep.cons 14 rfl (Keep.cons 15 rfl (Keep.cons 31 rfl (Keep.cons 34 rfl (Keep.cons 45 rfl Keep.nil))))))))))))) ?_
    refine at_block ?_
    refine at_seq ?_
    refine at_region ?_
    refine wl_split rfl rfl rfl (yp_eql rfl rfl rfl) ?_ ?_
    · intro h11_0
      refine wl_read rfl rfl rfl (yl_assign rfl rfl) ?_
      refine wl_nil ?_
      refine at_keep (Keep.cons 0 rfl (Keep.cons 1 rfl (Keep.cons 2 rfl (Keep.cons 3 rfl (Keep.cons 4 rfl (Keep.cons 10 rfl (Keep.cons 11 rfl (Keep.cons 13 rfl (Keep.cons 14 rfl (Keep.cons 15 rfl (Keep.cons 31 rfl (Keep.cons 34 rfl (Keep.cons 45 rfl (Keep.cons 52 rfl Keep.nil)))))))))))))) ?_
      refine at_true rfl ?_
      refine at_region ?_
      refine wl_read rfl rfl rfl (yl_move rfl rfl) ?_
      refine wl_read rfl rfl rfl (yl_move rfl rfl) ?_
      refine wl_read rfl rfl rfl (yl_index rfl rfl rfl (Rd.of_sl 1 rfl) (at_some hjl) rfl rfl Try.underlying23 (by kernel_rfl) rfl) ?_
      refine wl_read rfl rfl rfl (yl_field rfl rfl Try.underlying37 rfl (by kernel_rfl) rfl) ?_
      refine wl_read rfl rfl rfl (yl_load rfl rfl Try.underlying3 rfl ((Rd.of_sl 1 rfl).cell2 (at_some hjl) rfl)) ?_
      refine wl_read rfl rfl rfl (yl_move rfl rfl) ?_
      refine wl_read rfl rfl rfl (yl_add rfl rfl rfl (w64 (by omega) (by omega))) ?_
      refine wl_read rfl rfl rfl (yl_index rfl rfl rfl (Rd.of_sl 1 rfl) (at_some hjl) rfl rfl Try.underlying23 (by kernel_rfl) rfl) ?_
      refine wl_read rfl rfl rfl (yl_field rfl rfl Try.underlying37 rfl (by kernel_rfl) rfl) ?_
      refine wl_store rfl rfl (es_at1 (es_storeSl (α := Stage) 1 (⟨(at_ s j).month + (1 + md by' 100), (at_ s j).law, (at_ s j).ends, (at_ s j).amount⟩ : Stage) rfl rfl rfl rfl (by kernel_rfl) rfl (at_some hjl) rfl rfl)) ?_
      refine wl_nil ?_
      refine at_keep (Keep.cons 0 rfl (Keep.cons 1 rfl (Keep.cons 2 rfl (Keep.cons 3 rfl (Keep.cons 4 rfl (Keep.cons 10 rfl (Keep.cons 11 rfl (Keep.cons 13 rfl (Keep.cons 14 rfl (Keep.cons 15 rfl (Keep.cons 31 rfl (Keep.cons 34 rfl (Keep.cons 45 rfl (Keep.cons 52 rfl Keep.nil)))))))))))))) ?_
      refine at_inBlock ?_
      refine at_seq ?_
      have hbad : ¬ Valid (s.set j (⟨(at_ s j).month + (1 + md by' 100), (at_ s j).law, (at_ s j).ends, (at_ s j).amount⟩ : Stage)) := bad_month s (1 + md by' 100) hv (by omega) hjl (by omega) _ rfl
      refine at_region ?_
      refine wl_read rfl rfl rfl (yl_move rfl rfl) ?_
      refine wl_call rfl rfl rfl (en_call rfl rfl) (run_badL hbad (by rw [List.length_set]) (by omega) (Rd.of_sl 1 rfl)) ?_
      rintro _ _ ⟨rfl, rfl⟩
      refine wl_read rfl rfl rfl (yl_move rfl rfl) ?_
      refine wl_read rfl rfl rfl (yl_extract rfl rfl rfl) ?_
      refine wl_read rfl rfl rfl (yl_extract rfl rfl rfl) ?_
      refine wl_read rfl rfl rfl (yl_assign rfl rfl) ?_
      refine wl_read rfl rfl rfl (yl_assign rfl rfl) ?_
      refine wl_nil ?_
      refine at_keep (Keep.cons 0 rfl (Keep.cons 1 rfl (Keep.cons 2 rfl (Keep.cons 3 rfl (Keep.cons 4 rfl (Keep.cons 10 rfl (Keep.cons 11 rfl (Keep.cons 13 rfl (Keep.cons 14 rfl (Keep.cons 15 rfl (Keep.cons 16 rfl (Keep.cons 17 rfl (Keep.cons 31 rfl (Keep.cons 34 rfl (Keep.cons 45 rfl (Keep.cons 52 rfl Keep.nil)))))))))))))))) ?_
      refine at_seq ?_
      refine at_region ?_
      refine wl_read rfl rfl rfl (yl_move rfl rfl) ?_
      refine wl_read rfl rfl rfl ((yp_eql rfl rfl rfl).1 rfl) ?_
      refine wl_read rfl rfl rfl (yl_move rfl rfl) ?_
      refine wl_read rfl rfl rfl (yl_move rfl rfl) ?_
      refine wl_read rfl rfl rfl (yl_len rfl rfl Try.underlying25) ?_
      refine wl_read rfl rfl rfl ((yp_eql rfl rfl rfl).1 rfl) ?_
      refine wl_read rfl rfl rfl (yl_pickT rfl rfl rfl) ?_
      refine wl_read rfl rfl rfl (yl_assign rfl rfl) ?_
      refine wl_nil ?_
      refine at_keep (Keep.cons 0 rfl (Keep.cons 1 rfl (Keep.cons 2 rfl (Keep.cons 3 rfl (Keep.cons 4 rfl (Keep.cons 10 rfl (Keep.cons 11 rfl (Keep.cons 13 rfl (Keep.cons 14 rfl (Keep.cons 15 rfl (Keep.cons 16 rfl (Keep.cons 17 rfl (Keep.cons 31 rfl (Keep.cons 34 rfl (Keep.cons 45 rfl (Keep.cons 52 rfl Keep.nil)))))))))))))))) ?_
      refine at_retH (fun _ hw => hw.tail.tail) Try.func5 (res1 rfl rfl) ?_
      exact ⟨rfl, rfl⟩
    · intro h11_0
      refine wl_read rfl rfl rfl (yl_assign rfl rfl) ?_
      refine wl_nil ?_
      refine at_keep (Keep.cons 0 rfl (Keep.cons 1 rfl (Keep.cons 2 rfl (Keep.cons 3 rfl (Keep.cons 4 rfl (Keep.cons 10 rfl (Keep.cons 11 rfl (Keep.cons 13 rfl (Keep.cons 14 rfl (Keep.cons 15 rfl (Keep.cons 31 rfl (Keep.cons 34 rfl (Keep.cons 45 rfl (Keep.cons 52 rfl Keep.nil)))))))))))))) ?_
      refine at_false rfl ?_
      refine at_seq ?_
      refine at_region ?_
      refine wl_split rfl rfl rfl (yp_eql rfl rfl rfl) ?_ ?_
      · intro h13_0
        refine wl_read rfl rfl rfl (yl_assign rfl rfl) ?_
        refine wl_nil ?_
        refine at_keep (Keep.cons 0 rfl (Keep.cons 1 rfl (Keep.cons 2 rfl (Keep.cons 3 rfl (Keep.cons 4 rfl (Keep.cons 10 rfl (Keep.cons 11 rfl (Keep.cons 13 rfl (Keep.cons 14 rfl (Keep.cons 15 rfl (Keep.cons 31 rfl (Keep.cons 34 rfl (Keep.cons 45 rfl (Keep.cons 52 rfl (Keep.cons 63 rfl Keep.nil))))))))))))))) ?_
        refine at_true rfl ?_
        refine at_region ?_
        refine wl_read rfl rfl rfl (yl_move rfl rfl) ?_
        refine wl_read rfl rfl rfl (yl_move rfl rfl) ?_
        refine wl_read rfl rfl rfl (yl_move rfl rfl) ?_
        refine wl_read rfl rfl rfl (yl_neg rfl rfl (w64 (by omega) (by omega))) ?_
        refine wl_read rfl rfl rfl (yl_index rfl rfl rfl (Rd.of_sl 1 rfl) (at_some hjl) rfl rfl Try.underlying23 (by kernel_rfl) rfl) ?_
        refine wl_read rfl rfl rfl (yl_field rfl rfl Try.underlying37 rfl (by kernel_rfl) rfl) ?_
        refine wl_store rfl rfl (es_at1 (es_storeSl (α := Stage) 1 (⟨(at_ s j).month, (at_ s j).law, (at_ s j).ends, 0 - (1 + md by' 100)⟩ : Stage) rfl rfl rfl rfl (by kernel_rfl) rfl (at_some hjl) rfl rfl)) ?_
        refine wl_nil ?_
        refine at_keep (Keep.cons 0 rfl (Keep.cons 1 rfl (Keep.cons 2 rfl (Keep.cons 3 rfl (Keep.cons 4 rfl (Keep.cons 10 rfl (Keep.cons 11 rfl (Keep.cons 13 rfl (Keep.cons 14 rfl (Keep.cons 15 rfl (Keep.cons 31 rfl (Keep.cons 34 rfl (Keep.cons 45 rfl (Keep.cons 52 rfl (Keep.cons 63 rfl Keep.nil))))))))))))))) ?_
        refine at_inBlock ?_
        refine at_seq ?_
        have hbad : ¬ Valid (s.set j (⟨(at_ s j).month, (at_ s j).law, (at_ s j).ends, 0 - (1 + md by' 100)⟩ : Stage)) := bad_amount s hjl _ (.inl (by simp only []; omega))
        refine at_region ?_
        refine wl_read rfl rfl rfl (yl_move rfl rfl) ?_
        refine wl_call rfl rfl rfl (en_call rfl rfl) (run_badL hbad (by rw [List.length_set]) (by omega) (Rd.of_sl 1 rfl)) ?_
        rintro _ _ ⟨rfl, rfl⟩
        refine wl_read rfl rfl rfl (yl_move rfl rfl) ?_
        refine wl_read rfl rfl rfl (yl_extract rfl rfl rfl) ?_
        refine wl_read rfl rfl rfl (yl_extract rfl rfl rfl) ?_
        refine wl_read rfl rfl rfl (yl_assign rfl rfl) ?_
        refine wl_read rfl rfl rfl (yl_assign rfl rfl) ?_
        refine wl_nil ?_
        refine at_keep (Keep.cons 0 rfl (Keep.cons 1 rfl (Keep.cons 2 rfl (Keep.cons 3 rfl (Keep.cons 4 rfl (Keep.cons 10 rfl (Keep.cons 11 rfl (Keep.cons 13 rfl (Keep.cons 14 rfl (Keep.cons 15 rfl (Keep.cons 16 rfl (Keep.cons 17 rfl (Keep.cons 31 rfl (Keep.cons 34 rfl (Keep.cons 45 rfl (Keep.cons 52 rfl (Keep.cons 63 rfl Keep.nil))))))))))))))))) ?_
        refine at_seq ?_
        refine at_region ?_
        refine wl_read rfl rfl rfl (yl_move rfl rfl) ?_
        refine wl_read rfl rfl rfl ((yp_eql rfl rfl rfl).1 rfl) ?_
        refine wl_read rfl rfl rfl (yl_move rfl rfl) ?_
        refine wl_read rfl rfl rfl (yl_move rfl rfl) ?_
        refine wl_read rfl rfl rfl (yl_len rfl rfl Try.underlying25) ?_
        refine wl_read rfl rfl rfl ((yp_eql rfl rfl rfl).1 rfl) ?_
        refine wl_read rfl rfl rfl (yl_pickT rfl rfl rfl) ?_
        refine wl_read rfl rfl rfl (yl_assign rfl rfl) ?_
        refine wl_nil ?_
        refine at_keep (Keep.cons 0 rfl (Keep.cons 1 rfl (Keep.cons 2 rfl (Keep.cons 3 rfl (Keep.cons 4 rfl (Keep.cons 10 rfl (Keep.cons 11 rfl (Keep.cons 13 rfl (Keep.cons 14 rfl (Keep.cons 15 rfl (Keep.cons 16 rfl (Keep.cons 17 rfl (Keep.cons 31 rfl (Keep.cons 34 rfl (Keep.cons 45 rfl (Keep.cons 52 rfl (Keep.cons 63 rfl Keep.nil))))))))))))))))) ?_
        refine at_retH (fun _ hw => hw.tail.tail) Try.func5 (res1 rfl rfl) ?_
        exact ⟨rfl, rfl⟩
      · intro h13_0
        refine wl_read rfl rfl rfl (yl_assign rfl rfl) ?_
        refine wl_nil ?_
        refine at_keep (Keep.cons 0 rfl (Keep.cons 1 rfl (Keep.cons 2 rfl (Keep.cons 3 rfl (Keep.cons 4 rfl (Keep.cons 10 rfl (Keep.cons 11 rfl (Keep.cons 13 rfl (Keep.cons 14 rfl (Keep.cons 15 rfl (Keep.cons 31 rfl (Keep.cons 34 rfl (Keep.cons 45 rfl (Keep.cons 52 rfl (Keep.cons 63 rfl Keep.nil))))))))))))))) ?_
        refine at_false rfl ?_
        refine at_region ?_
        refine wl_read rfl rfl rfl (yl_move rfl rfl) ?_
        refine wl_read rfl rfl rfl (yl_move rfl rfl) ?_
        refine wl_read rfl rfl rfl (yl_move rfl rfl) ?_
        refine wl_read rfl rfl rfl (yl_add rfl rfl rfl (w64 (by omega) (by omega))) ?_
        refine wl_read rfl rfl rfl (yl_index rfl rfl rfl (Rd.of_sl 1 rfl) (at_some hjl) rfl rfl Try.underlying23 (by kernel_rfl) rfl) ?_
        refine wl_read rfl rfl rfl (yl_field rfl rfl Try.underlying37 rfl (by kernel_rfl) rfl) ?_
        refine wl_store rfl rfl (es_at1 (es_storeSl (α := Stage) 1 (⟨(at_ s j).month, (at_ s j).law, (at_ s j).ends, 1000000000000 + (1 + md by' 100)⟩ : Stage) rfl rfl rfl rfl (by kernel_rfl) rfl (at_some hjl) rfl rfl)) ?_
        refine wl_nil ?_
        refine at_keep (Keep.cons 0 rfl (Keep.cons 1 rfl (Keep.cons 2 rfl (Keep.cons 3 rfl (Keep.cons 4 rfl (Keep.cons 10 rfl (Keep.cons 11 rfl (Keep.cons 13 rfl (Keep.cons 14 rfl (Keep.cons 15 rfl (Keep.cons 31 rfl (Keep.cons 34 rfl (Keep.cons 45 rfl (Keep.cons 52 rfl (Keep.cons 63 rfl Keep.nil))))))))))))))) ?_
        refine at_inBlock ?_
        refine at_seq ?_
        have hbad : ¬ Valid (s.set j (⟨(at_ s j).month, (at_ s j).law, (at_ s j).ends, 1000000000000 + (1 + md by' 100)⟩ : Stage)) := bad_amount s hjl _ (.inr (by simp only []; omega))
        refine at_region ?_
        refine wl_read rfl rfl rfl (yl_move rfl rfl) ?_
        refine wl_call rfl rfl rfl (en_call rfl rfl) (run_badL hbad (by rw [List.length_set]) (by omega) (Rd.of_sl 1 rfl)) ?_
        rintro _ _ ⟨rfl, rfl⟩
        refine wl_read rfl rfl rfl (yl_move rfl rfl) ?_
        refine wl_read rfl rfl rfl (yl_extract rfl rfl rfl) ?_
        refine wl_read rfl rfl rfl (yl_extract rfl rfl rfl) ?_
        refine wl_read rfl rfl rfl (yl_assign rfl rfl) ?_
        refine wl_read rfl rfl rfl (yl_assign rfl rfl) ?_
        refine wl_nil ?_
        refine at_keep (Keep.cons 0 rfl (Keep.cons 1 rfl (Keep.cons 2 rfl (Keep.cons 3 rfl (Keep.cons 4 rfl (Keep.cons 10 rfl (Keep.cons 11 rfl (Keep.cons 13 rfl (Keep.cons 14 rfl (Keep.cons 15 rfl (Keep.cons 16 rfl (Keep.cons 17 rfl (Keep.cons 31 rfl (Keep.cons 34 rfl (Keep.cons 45 rfl (Keep.cons 52 rfl (Keep.cons 63 rfl Keep.nil))))))))))))))))) ?_
        refine at_seq ?_
        refine at_region ?_
        refine wl_read rfl rfl rfl (yl_move rfl rfl) ?_
        refine wl_read rfl rfl rfl ((yp_eql rfl rfl rfl).1 rfl) ?_
        refine wl_read rfl rfl rfl (yl_move rfl rfl) ?_
        refine wl_read rfl rfl rfl (yl_move rfl rfl) ?_
        refine wl_read rfl rfl rfl (yl_len rfl rfl Try.underlying25) ?_
        refine wl_read rfl rfl rfl ((yp_eql rfl rfl rfl).1 rfl) ?_
        refine wl_read rfl rfl rfl (yl_pickT rfl rfl rfl) ?_
        refine wl_read rfl rfl rfl (yl_assign rfl rfl) ?_
        refine wl_nil ?_
        refine at_keep (Keep.cons 0 rfl (Keep.cons 1 rfl (Keep.cons 2 rfl (Keep.cons 3 rfl (Keep.cons 4 rfl (Keep.cons 10 rfl (Keep.cons 11 rfl (Keep.cons 13 rfl (Keep.cons 14 rfl (Keep.cons 15 rfl (Keep.cons 16 rfl (Keep.cons 17 rfl (Keep.cons 31 rfl (Keep.cons 34 rfl (Keep.cons 45 rfl (Keep.cons 52 rfl (Keep.cons 63 rfl Keep.nil))))))))))))))))) ?_
        refine at_retH (fun _ hw => hw.tail.tail) Try.func5 (res1 rfl rfl) ?_
        exact ⟨rfl, rfl⟩
theorem at_yes {l : List Running} {A : Option Addr} {c : Nat} {m : Int} {b : World} {H : List Asr} (hR : Rd H A l) (hl : l.length ≤ 140737488355328) (h : 0 ≤ bestOf l m) :
    Fn Try.prog 20 [.slice A l.length c, .int .i64 m] b H (fun v H' => v = .tuple #[.agg (Enc.cells (atR l m)).toArray, .bool true] ∧ H = H') :=
  (at_fn l A c m b H hR hl).mono (by rintro v H' ⟨h1, h2⟩; exact ⟨by rw [h1, decide_eq_true h], h2⟩)
theorem at_no {l : List Running} {A : Option Addr} {c : Nat} {m : Int} {b : World} {H : List Asr} (hR : Rd H A l) (hl : l.length ≤ 140737488355328) (h : bestOf l m < 0) :
    Fn Try.prog 20 [.slice A l.length c, .int .i64 m] b H (fun v H' => v = .tuple #[.agg (Enc.cells (atR l m)).toArray, .bool false] ∧ H = H') :=
  (at_fn l A c m b H hR hl).mono (by rintro v H' ⟨h1, h2⟩; exact ⟨by rw [h1, decide_eq_false (by omega)], h2⟩)

theorem law12 (l : List Running) (A : Option Addr) (c : Nat) (month : Int) (b : World) (H : List Asr) (hR : Rd H A l) (hl : l.length * 24 ≤ 140737488355328) : Fn Try.prog 12 [.slice A l.length c, .int .i64 month] b H (fun v H' => v = .bool true ∧ H = H') := by
  have hcl := cmps_length l l.length
  refine fn_of_at (by kernel_rfl) Try.func12 rfl Try.ntmps12 rfl rfl ?_
  refine at_seq ?_
  refine at_region ?_
  refine wl_read rfl rfl rfl (yl_assign rfl rfl) ?_
  refine wl_nil ?_
  refine at_keep (Keep.cons 0 rfl (Keep.cons 1 rfl (Keep.cons 4 rfl Keep.nil))) ?_
  refine at_seq ?_
  refine at_region ?_
  refine wl_read rfl rfl rfl (yl_move rfl rfl) ?_
  refine wl_read rfl rfl rfl (yl_move rfl rfl) ?_
  refine wl_call rfl rfl rfl (en_call rfl rfl) (at_fn l A c month _ _ hR (by omega)) ?_
  rintro _ _ ⟨rfl, rfl⟩
  refine wl_read rfl rfl rfl (yl_move rfl rfl) ?_
  refine wl_read rfl rfl rfl (yl_extract rfl rfl rfl) ?_
  refine wl_read rfl rfl rfl (yl_extract rfl rfl rfl) ?_
  refine wl_eff rfl rfl rfl (ef_alloc (cs := [.int .i64 0, .int .i64 0, .bool false]) (z := .agg #[.int .i64 0, .int .i64 0, .bool false]) rfl (by kernel_rfl) rfl) ?_
  rintro _ _ ⟨g1, rfl, rfl⟩
  refine wl_store rfl rfl (es_at0 (es_storeN 0 rfl rfl rfl rfl (by kernel_rfl) rfl rfl)) ?_
  refine wl_read rfl rfl rfl (yl_assign rfl rfl) ?_
  refine wl_nil ?_
  refine at_keep (Keep.cons 0 rfl (Keep.cons 1 rfl (Keep.cons 4 rfl (Keep.cons 5 rfl (Keep.cons 6 rfl Keep.nil))))) ?_
  refine at_seq ?_
  refine at_region ?_
  refine wl_read rfl rfl rfl (yl_move rfl rfl) ?_
  refine wl_read rfl rfl rfl (yl_move rfl rfl) ?_
  refine wl_call rfl rfl rfl (en_call rfl rfl) (refat_fn l A c month _ _ (hR.cons _) (by omega)) ?_
  rintro _ _ ⟨rfl, rfl⟩
  refine wl_read rfl rfl rfl (yl_move rfl rfl) ?_
  refine wl_read rfl rfl rfl (yl_extract rfl rfl rfl) ?_
  refine wl_read rfl rfl rfl (yl_extract rfl rfl rfl) ?_
  refine wl_eff rfl rfl rfl (ef_alloc (cs := [.int .i64 0, .int .i64 0, .bool false]) (z := .agg #[.int .i64 0, .int .i64 0, .bool false]) rfl (by kernel_rfl) rfl) ?_
  rintro _ _ ⟨g2, rfl, rfl⟩
  refine wl_store rfl rfl (es_at0 (es_storeN 0 rfl rfl rfl rfl (by kernel_rfl) rfl rfl)) ?_
  refine wl_read rfl rfl rfl (yl_assign rfl rfl) ?_
  refine wl_nil ?_
  refine at_keep (Keep.cons 0 rfl (Keep.cons 1 rfl (Keep.cons 4 rfl (Keep.cons 5 rfl (Keep.cons 6 rfl (Keep.cons 7 rfl (Keep.cons 8 rfl Keep.nil))))))) ?_
  refine at_seq ?_
  refine at_region ?_
  refine wl_call rfl rfl rfl (en_call rfl rfl) (awake_fn _ _) ?_
  rintro _ _ ⟨rfl, rfl⟩
  refine wl_read rfl rfl rfl (yl_move rfl rfl) ?_
  refine wl_read rfl rfl rfl (yl_move rfl rfl) ?_
  refine wl_call rfl rfl rfl (en_call rfl rfl) (compress_fn l A c _ _ ((hR.cons _).cons _) hl) ?_
  rintro _ _ ⟨A1, c1, rfl, rfl⟩
  refine wl_read rfl rfl rfl (yl_move rfl rfl) ?_
  refine wl_call rfl rfl rfl (en_call rfl rfl) (refcompress_fn l A c _ _ (((hR.cons _).cons _).cons _) hl) ?_
  rintro _ _ ⟨A2, c2, rfl, rfl⟩
  refine wl_call rfl rfl rfl (en_call rfl rfl) (same_fn _ _ _ _ _ _ _ _ (Rd.of_sl 1 rfl) (Rd.of_sl 0 rfl) (by unfold compress; omega)) ?_
  rintro _ _ ⟨rfl, rfl⟩
  rw [decide_eq_true rfl]
  refine wl_read rfl rfl rfl (yl_pickT rfl rfl rfl) ?_
  refine wl_read rfl rfl rfl (yl_move rfl rfl) ?_
  refine wl_read rfl rfl rfl (yl_loadBk 3 rfl rfl rfl Try.underlying32 rfl (by kernel_rfl)) ?_
  refine wl_read rfl rfl rfl (yl_loadBk 2 rfl rfl rfl Try.underlying32 rfl (by kernel_rfl)) ?_
  refine wl_read rfl rfl rfl ((yp_eqAgg rfl rfl rfl (by kernel_rfl) (eqT32 _ _) (eqF32 _ _)).1 rfl) ?_
  refine wl_read rfl rfl rfl (yl_pickT rfl rfl rfl) ?_
  refine wl_read rfl rfl rfl (yl_move rfl rfl) ?_
  refine wl_read rfl rfl rfl (yl_move rfl rfl) ?_
  refine wl_read rfl rfl rfl (yl_move rfl rfl) ?_
  refine wl_read rfl rfl rfl ((yp_eqb rfl rfl rfl Try.underlying4).1 rfl) ?_
  refine wl_read rfl rfl rfl (yl_pickT rfl rfl rfl) ?_
  refine wl_read rfl rfl rfl (yl_assign rfl rfl) ?_
  refine wl_nil ?_
  refine at_keep (Keep.cons 0 rfl (Keep.cons 1 rfl (Keep.cons 4 rfl (Keep.cons 5 rfl (Keep.cons 6 rfl (Keep.cons 7 rfl (Keep.cons 8 rfl Keep.nil))))))) ?_
  refine at_retH (fun _ hw => hw.tail.tail.tail.tail) Try.func12 (res1 rfl rfl) ?_
  exact ⟨rfl, rfl⟩
theorem law13 (l : List Raw) (A : Option Addr) (c : Nat) (month : Int) (b : World) (H : List Asr) (hR : Rd H A l) (hl : l.length ≤ 140737488355328) (ha : ∀ i, i < l.length → I64 (at_ l i).amount) : Fn Try.prog 13 [.slice A l.length c, .int .i64 month] b H (fun v H' => v = .bool true ∧ H = H') := by
  obtain ⟨s, hs⟩ : ∃ s, s = stages l month := ⟨_, rfl⟩
  have hv : Valid s := hs ▸ stages_valid l month
  have hl120 := hv.1
  have hst := run_steps s hv
  have hrl := run_length s
  have hcl := cmps_length (run s) (run s).length
  have hcl' : (compress (run s)).length ≤ (run s).length := hcl
  refine fn_of_at (by kernel_rfl) Try.func13 rfl Try.ntmps13 rfl rfl ?_
  refine at_seq ?_
  refine at_region ?_
  refine wl_read rfl rfl rfl (yl_assign rfl rfl) ?_
  refine wl_nil ?_
  refine at_keep (Keep.cons 0 rfl (Keep.cons 1 rfl (Keep.cons 4 rfl Keep.nil))) ?_
  refine at_seq ?_
  refine at_region ?_
  refine wl_read rfl rfl rfl (yl_move rfl rfl) ?_
  refine wl_read rfl rfl rfl (yl_move rfl rfl) ?_
  refine wl_call rfl rfl rfl (en_call rfl rfl) (stages_fnS hs hR hl ha) ?_
  rintro _ _ ⟨A1, c1, rfl, rfl⟩
  refine wl_read rfl rfl rfl (yl_assign rfl rfl) ?_
  refine wl_nil ?_
  refine at_keep (Keep.cons 0 rfl (Keep.cons 1 rfl (Keep.cons 4 rfl (Keep.cons 5 rfl Keep.nil)))) ?_
  refine at_seq ?_
  refine at_region ?_
  refine wl_read rfl rfl rfl (yl_move rfl rfl) ?_
  refine wl_call rfl rfl rfl (en_call rfl rfl) (run_ok hv (Rd.of_sl 0 rfl)) ?_
  rintro _ _ ⟨A2, c2, rfl, rfl⟩
  refine wl_read rfl rfl rfl (yl_move rfl rfl) ?_
  refine wl_read rfl rfl rfl (yl_extract rfl rfl rfl) ?_
  refine wl_read rfl rfl rfl (yl_extract rfl rfl rfl) ?_
  refine wl_read rfl rfl rfl (yl_assign rfl rfl) ?_
  refine wl_read rfl rfl rfl (yl_assign rfl rfl) ?_
  refine wl_nil ?_
  refine at_keep (Keep.cons 0 rfl (Keep.cons 1 rfl (Keep.cons 4 rfl (Keep.cons 5 rfl (Keep.cons 6 rfl (Keep.cons 7 rfl Keep.nil)))))) ?_
  refine at_seq ?_
  refine at_seq ?_
  refine at_region ?_
  refine wl_call rfl rfl rfl (en_call rfl rfl) (awake_fn _ _) ?_
  rintro _ _ ⟨rfl, rfl⟩
  refine wl_read rfl rfl rfl (yl_notT rfl rfl) ?_
  refine wl_read rfl rfl rfl (yl_move rfl rfl) ?_
  refine wl_read rfl rfl rfl (yl_move rfl rfl) ?_
  refine wl_read rfl rfl rfl ((yp_neq rfl rfl rfl).2 (by simp)) ?_
  refine wl_read rfl rfl rfl (yl_pickF rfl rfl rfl) ?_
  refine wl_read rfl rfl rfl (yl_move rfl rfl) ?_
  refine wl_read rfl rfl rfl (yl_move rfl rfl) ?_
  refine wl_read rfl rfl rfl (yl_len rfl rfl Try.underlying25) ?_
  refine wl_read rfl rfl rfl (yl_move rfl rfl) ?_
  refine wl_read rfl rfl rfl (yl_len rfl rfl Try.underlying23) ?_
  refine wl_read rfl rfl rfl ((yp_neq rfl rfl rfl).2 (by rw [run_length]; simp)) ?_
  refine wl_read rfl rfl rfl (yl_pickF rfl rfl rfl) ?_
  refine wl_nil ?_
  refine at_keep (Keep.cons 0 rfl (Keep.cons 1 rfl (Keep.cons 4 rfl (Keep.cons 5 rfl (Keep.cons 6 rfl (Keep.cons 7 rfl (Keep.cons 35 rfl Keep.nil))))))) ?_
  refine at_false rfl ?_
  refine at_skip ?_
  refine at_seq ?_
  refine at_region ?_
  refine wl_read rfl rfl rfl (yl_move rfl rfl) ?_
  refine wl_call rfl rfl rfl (en_call rfl rfl) (compress_fn (run s) _ _ _ _ (Rd.of_sl 0 rfl) (by omega)) ?_
  rintro _ _ ⟨A3, c3, rfl, rfl⟩
  refine wl_read rfl rfl rfl (yl_assign rfl rfl) ?_
  refine wl_nil ?_
  refine at_keep (Keep.cons 0 rfl (Keep.cons 1 rfl (Keep.cons 4 rfl (Keep.cons 5 rfl (Keep.cons 6 rfl (Keep.cons 7 rfl (Keep.cons 8 rfl (Keep.cons 35 rfl Keep.nil)))))))) ?_
  refine at_seq ?_
  refine at_seq ?_
  refine at_region ?_
  refine wl_read rfl rfl rfl (yl_assign rfl rfl) ?_
  refine wl_nil ?_
  refine at_keep (Keep.cons 0 rfl (Keep.cons 1 rfl (Keep.cons 4 rfl (Keep.cons 5 rfl (Keep.cons 6 rfl (Keep.cons 7 rfl (Keep.cons 8 rfl (Keep.cons 9 rfl (Keep.cons 35 rfl Keep.nil))))))))) ?_
  refine at_block ?_
  refine at_keep (L' := (fun (k : Nat) => [(6, .slice A2 (run s).length c2), (8, .slice A3 (compress (run s)).length c3), (9, .int .i64 (k : Int))]) 0) (Keep.consEq 6 rfl rfl (Keep.consEq 8 rfl rfl (Keep.consEq 9 rfl rfl Keep.nil))) ?_
  refine at_loop1 (fun (k : Nat) => True) (fun (k : Nat) => [(6, .slice A2 (run s).length c2), (8, .slice A3 (compress (run s)).length c3), (9, .int .i64 (k : Int))]) (fun (k : Nat) => Sl A3 c3 32 (compress (run s)) :: Sl A2 c2 32 (run s) :: Sl A1 c1 37 s :: H) (fun (k : Nat) => (run s).length - k) 0 trivial ?_
  intro k hI ih
  refine at_seq ?_
  refine at_seq ?_
  refine at_region ?_
  refine wl_read rfl rfl rfl (yl_move rfl rfl) ?_
  refine wl_read rfl rfl rfl (yl_move rfl rfl) ?_
  refine wl_read rfl rfl rfl (yl_len rfl rfl Try.underlying25) ?_
  refine wl_split rfl rfl rfl (yp_lss rfl rfl rfl) ?_ ?_
  · intro h7_3
    refine wl_nil ?_
    refine at_keep (Keep.cons 6 rfl (Keep.cons 8 rfl (Keep.cons 9 rfl (Keep.cons 41 rfl Keep.nil)))) ?_
    refine at_true rfl ?_
    refine at_skip ?_
    refine at_seq ?_
    refine at_block ?_
    refine at_seq ?_
    have hk1 : k < (run s).length := by omega
    have hac := at_compress (run s) hst hk1
    refine at_region ?_
    refine wl_read rfl rfl rfl (yl_move rfl rfl) ?_
    refine wl_read rfl rfl rfl (yl_move rfl rfl) ?_
    refine wl_read rfl rfl rfl (yl_move rfl rfl) ?_
    refine wl_read rfl rfl rfl (yl_index rfl rfl rfl (Rd.of_sl 1 rfl) (at_some hk1) rfl rfl Try.underlying25 (by kernel_rfl) rfl) ?_
    refine wl_read rfl rfl rfl (yl_field rfl rfl Try.underlying32 rfl (by kernel_rfl) rfl) ?_
    refine wl_read rfl rfl rfl (yl_load rfl rfl Try.underlying3 rfl ((Rd.of_sl 1 rfl).cell2 (at_some hk1) rfl)) ?_
    refine wl_call rfl rfl rfl (en_call rfl rfl) (at_yes (Rd.of_sl 0 rfl) (by omega) hac.1) ?_
    rintro _ _ ⟨rfl, rfl⟩
    refine wl_read rfl rfl rfl (yl_move rfl rfl) ?_
    refine wl_read rfl rfl rfl (yl_extract rfl rfl rfl) ?_
    refine wl_read rfl rfl rfl (yl_extract rfl rfl rfl) ?_
    refine wl_eff rfl rfl rfl (ef_alloc (cs := [.int .i64 0, .int .i64 0, .bool false]) (z := .agg #[.int .i64 0, .int .i64 0, .bool false]) rfl (by kernel_rfl) rfl) ?_
    rintro _ _ ⟨g9_10, rfl, rfl⟩
    refine wl_store rfl rfl (es_at0 (es_storeN 0 rfl rfl rfl rfl (by kernel_rfl) rfl rfl)) ?_
    refine wl_read rfl rfl rfl (yl_assign rfl rfl) ?_
    refine wl_nil ?_
    refine at_keep (Keep.cons 6 rfl (Keep.cons 8 rfl (Keep.cons 9 rfl (Keep.cons 10 rfl (Keep.cons 11 rfl (Keep.cons 41 rfl Keep.nil)))))) ?_
    refine at_seq ?_
    refine at_draw0 (.fl 0 (.fl 1 (.fl 2 (.fl 3 (.fl 4 (.fl 5 (.fl 6 (.fl 7 (.fl 8 (.fl 9 (.fl 10 (.fl 11 (.fl 12 (.fl 13 (.fl 14 (.fl 15 (.fl 16 (.fl 17 (.fl 18 (.fl 19 (.fl 20 (.fl 21 .nil)))))))))))))))))))))) (by kernel_rfl) (by kernel_rfl) ?_
    refine wt_read rfl rfl rfl rfl (yl_move rfl rfl) ?_
    refine wt_read rfl rfl rfl rfl (yl_notT rfl rfl) ?_
    refine wt_read rfl rfl rfl rfl (yl_move rfl rfl) ?_
    refine wt_read rfl rfl rfl rfl (yl_fieldB rfl rfl Try.underlying32 rfl (by kernel_rfl) rfl) ?_
    refine wt_read rfl rfl rfl rfl (yl_load rfl rfl Try.underlying3 rfl (CellAt.bk 0 rfl rfl)) ?_
    refine wt_read rfl rfl rfl rfl (yl_move rfl rfl) ?_
    refine wt_read rfl rfl rfl rfl (yl_move rfl rfl) ?_
    refine wt_read rfl rfl rfl rfl (yl_index rfl rfl rfl (Rd.of_sl 2 rfl) (at_some hk1) rfl rfl Try.underlying25 (by kernel_rfl) rfl) ?_
    refine wt_read rfl rfl rfl rfl (yl_field rfl rfl Try.underlying32 rfl (by kernel_rfl) rfl) ?_
    refine wt_read rfl rfl rfl rfl (yl_load rfl rfl Try.underlying3 rfl ((Rd.of_sl 2 rfl).cell2 (at_some hk1) rfl)) ?_
    refine wt_read rfl rfl rfl rfl ((yp_neq rfl rfl rfl).2 (by rw [hac.2.1]; simp)) ?_
    refine wt_read rfl rfl rfl rfl (yl_pickF rfl rfl rfl) ?_
    refine wt_read rfl rfl rfl rfl (yl_move rfl rfl) ?_
    refine wt_read rfl rfl rfl rfl (yl_fieldB rfl rfl Try.underlying32 rfl (by kernel_rfl) rfl) ?_
    refine wt_read rfl rfl rfl rfl (yl_load rfl rfl Try.underlying4 rfl (CellAt.bk 0 rfl rfl)) ?_
    refine wt_read rfl rfl rfl rfl (yl_move rfl rfl) ?_
    refine wt_read rfl rfl rfl rfl (yl_move rfl rfl) ?_
    refine wt_read rfl rfl rfl rfl (yl_index rfl rfl rfl (Rd.of_sl 2 rfl) (at_some hk1) rfl rfl Try.underlying25 (by kernel_rfl) rfl) ?_
    refine wt_read rfl rfl rfl rfl (yl_field rfl rfl Try.underlying32 rfl (by kernel_rfl) rfl) ?_
    refine wt_read rfl rfl rfl rfl (yl_load rfl rfl Try.underlying4 rfl ((Rd.of_sl 2 rfl).cell2 (at_some hk1) rfl)) ?_
    refine wt_read rfl rfl rfl rfl ((yp_neb rfl rfl rfl Try.underlying4).2 (by rw [hac.2.2]; simp)) ?_
    refine wt_read rfl rfl rfl rfl (yl_pickF rfl rfl rfl) ?_
    refine wt_nil ?_
    refine at_keep (Keep.cons 6 rfl (Keep.cons 8 rfl (Keep.cons 9 rfl (Keep.cons 10 rfl (Keep.cons 11 rfl (Keep.cons 41 rfl (Keep.cons 75 rfl Keep.nil))))))) ?_
    refine at_false rfl ?_
    refine at_skip ?_
    refine at_inBlock ?_
    refine at_heap (fun _ hw => hw.tail) ?_
    refine at_region ?_
    refine wl_read rfl rfl rfl (yl_move rfl rfl) ?_
    refine wl_read rfl rfl rfl (yl_add rfl rfl rfl (w64 (by omega) (by omega))) ?_
    refine wl_read rfl rfl rfl (yl_assign rfl rfl) ?_
    refine wl_nil ?_
    refine at_keep (Keep.cons 6 rfl (Keep.cons 8 rfl (Keep.cons 9 rfl (Keep.cons 10 rfl (Keep.cons 11 rfl (Keep.cons 41 rfl (Keep.cons 75 rfl Keep.nil))))))) ?_
    exact at_keep (L' := (fun (k : Nat) => [(6, .slice A2 (run s).length c2), (8, .slice A3 (compress (run s)).length c3), (9, .int .i64 (k : Int))]) (k + 1)) (Keep.consEq 6 rfl rfl (Keep.consEq 8 rfl rfl (Keep.consEq 9 rfl rfl Keep.nil))) (ih (k + 1) trivial (by omega))
  · intro h7_3
    refine wl_nil ?_
    refine at_keep (Keep.cons 6 rfl (Keep.cons 8 rfl (Keep.cons 9 rfl (Keep.cons 41 rfl Keep.nil)))) ?_
    refine at_false rfl ?_
    refine at_exit rfl ?_
    refine at_seq ?_
    refine at_seq ?_
    refine at_region ?_
    refine wl_read rfl rfl rfl (yl_assign rfl rfl) ?_
    refine wl_nil ?_
    refine at_keep (Keep.cons 6 rfl (Keep.cons 8 rfl (Keep.cons 9 rfl (Keep.cons 12 rfl (Keep.cons 41 rfl Keep.nil))))) ?_
    refine at_block ?_
    refine at_keep (L' := (fun (i : Nat) => [(6, .slice A2 (run s).length c2), (8, .slice A3 (compress (run s)).length c3), (12, .int .i64 (i : Int))]) 1) (Keep.consEq 6 rfl rfl (Keep.consEq 8 rfl rfl (Keep.consEq 12 rfl rfl Keep.nil))) ?_
    refine at_loop1 (fun (i : Nat) => 1 ≤ i) (fun (i : Nat) => [(6, .slice A2 (run s).length c2), (8, .slice A3 (compress (run s)).length c3), (12, .int .i64 (i : Int))]) (fun (i : Nat) => Sl A3 c3 32 (compress (run s)) :: Sl A2 c2 32 (run s) :: Sl A1 c1 37 s :: H) (fun (i : Nat) => (compress (run s)).length - i) 1 (by omega) ?_
    intro i hI ih
    refine at_seq ?_
    refine at_seq ?_
    refine at_region ?_
    refine wl_read rfl rfl rfl (yl_move rfl rfl) ?_
    refine wl_read rfl rfl rfl (yl_move rfl rfl) ?_
    refine wl_read rfl rfl rfl (yl_len rfl rfl Try.underlying25) ?_
    refine wl_split rfl rfl rfl (yp_lss rfl rfl rfl) ?_ ?_
    · intro h13_3
      refine wl_nil ?_
      refine at_keep (Keep.cons 6 rfl (Keep.cons 8 rfl (Keep.cons 12 rfl (Keep.cons 79 rfl Keep.nil)))) ?_
      refine at_true rfl ?_
      refine at_skip ?_
      refine at_seq ?_
      refine at_block ?_
      refine at_seq ?_
      have hi1 : i < (compress (run s)).length := by omega
      have hi0 : i - 1 < (compress (run s)).length := by omega
      have hun := compress_unlike (run s) hst (by omega) hi1
      have hin := compress_inc (run s) hst (i - 1) i (by omega) hi1
      refine at_draw0 (.fl 0 (.fl 1 (.fl 2 (.fl 3 (.fl 4 (.fl 5 (.fl 6 (.fl 7 (.fl 8 (.fl 9 (.fl 10 (.fl 11 (.fl 12 (.fl 13 (.fl 14 (.fl 15 (.fl 16 (.fl 17 (.fl 18 (.fl 19 (.fl 20 (.fl 21 (.fl 22 (.fl 23 (.fl 24 (.fl 25 (.fl 26 (.fl 27 (.fl 28 (.fl 29 (.fl 30 (.fl 31 (.fl 32 (.fl 33 (.fl 34 (.fl 35 (.fl 36 (.fl 37 (.fl 38 (.fl 39 .nil)))))))))))))))))))))))))))))))))))))))) (by kernel_rfl) (by kernel_rfl) ?_
      refine wt_read rfl rfl rfl rfl (yl_move rfl rfl) ?_
      refine wt_read rfl rfl rfl rfl (yl_move rfl rfl) ?_
      refine wt_read rfl rfl rfl rfl (yl_index rfl rfl rfl (Rd.of_sl 0 rfl) (at_some hi1) rfl rfl Try.underlying25 (by kernel_rfl) rfl) ?_
      refine wt_read rfl rfl rfl rfl (yl_field rfl rfl Try.underlying32 rfl (by kernel_rfl) rfl) ?_
      refine wt_read rfl rfl rfl rfl (yl_load rfl rfl Try.underlying3 rfl ((Rd.of_sl 0 rfl).cell2 (at_some hi1) rfl)) ?_
      refine wt_read rfl rfl rfl rfl (yl_move rfl rfl) ?_
      refine wt_read rfl rfl rfl rfl (yl_move rfl rfl) ?_
      refine wt_read rfl rfl rfl rfl (yl_sub rfl rfl rfl (w64 (by omega) (by omega))) ?_
      refine wt_read rfl rfl rfl rfl (yl_index rfl rfl rfl (Rd.of_sl 0 rfl) (at_some hi0) (by omega) rfl Try.underlying25 (by kernel_rfl) rfl) ?_
      refine wt_read rfl rfl rfl rfl (yl_field rfl rfl Try.underlying32 rfl (by kernel_rfl) rfl) ?_
      refine wt_read rfl rfl rfl rfl (yl_load rfl rfl Try.underlying3 rfl ((Rd.of_sl 0 rfl).cell2 (at_some hi0) rfl)) ?_
      refine wt_split rfl rfl rfl rfl (yp_eql rfl rfl rfl) ?_ ?_
      · intro h15_11
        refine wt_read rfl rfl rfl rfl (yl_move rfl rfl) ?_
        refine wt_read rfl rfl rfl rfl (yl_move rfl rfl) ?_
        refine wt_read rfl rfl rfl rfl (yl_move rfl rfl) ?_
        refine wt_read rfl rfl rfl rfl (yl_index rfl rfl rfl (Rd.of_sl 0 rfl) (at_some hi1) rfl rfl Try.underlying25 (by kernel_rfl) rfl) ?_
        refine wt_read rfl rfl rfl rfl (yl_field rfl rfl Try.underlying32 rfl (by kernel_rfl) rfl) ?_
        refine wt_read rfl rfl rfl rfl (yl_load rfl rfl Try.underlying4 rfl ((Rd.of_sl 0 rfl).cell2 (at_some hi1) rfl)) ?_
        refine wt_read rfl rfl rfl rfl (yl_move rfl rfl) ?_
        refine wt_read rfl rfl rfl rfl (yl_move rfl rfl) ?_
        refine wt_read rfl rfl rfl rfl (yl_sub rfl rfl rfl (w64 (by omega) (by omega))) ?_
        refine wt_read rfl rfl rfl rfl (yl_index rfl rfl rfl (Rd.of_sl 0 rfl) (at_some hi0) (by omega) rfl Try.underlying25 (by kernel_rfl) rfl) ?_
        refine wt_read rfl rfl rfl rfl (yl_field rfl rfl Try.underlying32 rfl (by kernel_rfl) rfl) ?_
        refine wt_read rfl rfl rfl rfl (yl_load rfl rfl Try.underlying4 rfl ((Rd.of_sl 0 rfl).cell2 (at_some hi0) rfl)) ?_
        refine wt_read rfl rfl rfl rfl ((yp_eqb rfl rfl rfl Try.underlying4).2 (fun h => hun ⟨h15_11, h⟩)) ?_
        refine wt_read rfl rfl rfl rfl (yl_pickT rfl rfl rfl) ?_
        refine wt_read rfl rfl rfl rfl (yl_move rfl rfl) ?_
        refine wt_read rfl rfl rfl rfl (yl_move rfl rfl) ?_
        refine wt_read rfl rfl rfl rfl (yl_move rfl rfl) ?_
        refine wt_read rfl rfl rfl rfl (yl_sub rfl rfl rfl (w64 (by omega) (by omega))) ?_
        refine wt_read rfl rfl rfl rfl (yl_index rfl rfl rfl (Rd.of_sl 0 rfl) (at_some hi0) (by omega) rfl Try.underlying25 (by kernel_rfl) rfl) ?_
        refine wt_read rfl rfl rfl rfl (yl_field rfl rfl Try.underlying32 rfl (by kernel_rfl) rfl) ?_
        refine wt_read rfl rfl rfl rfl (yl_load rfl rfl Try.underlying3 rfl ((Rd.of_sl 0 rfl).cell2 (at_some hi0) rfl)) ?_
        refine wt_read rfl rfl rfl rfl (yl_move rfl rfl) ?_
        refine wt_read rfl rfl rfl rfl (yl_move rfl rfl) ?_
        refine wt_read rfl rfl rfl rfl (yl_index rfl rfl rfl (Rd.of_sl 0 rfl) (at_some hi1) rfl rfl Try.underlying25 (by kernel_rfl) rfl) ?_
        refine wt_read rfl rfl rfl rfl (yl_field rfl rfl Try.underlying32 rfl (by kernel_rfl) rfl) ?_
        refine wt_read rfl rfl rfl rfl (yl_load rfl rfl Try.underlying3 rfl ((Rd.of_sl 0 rfl).cell2 (at_some hi1) rfl)) ?_
        refine wt_read rfl rfl rfl rfl ((yp_geq rfl rfl rfl).2 (by omega)) ?_
        refine wt_read rfl rfl rfl rfl (yl_pickF rfl rfl rfl) ?_
        refine wt_nil ?_
        refine at_keep (Keep.cons 6 rfl (Keep.cons 8 rfl (Keep.cons 12 rfl (Keep.cons 79 rfl (Keep.cons 121 rfl Keep.nil))))) ?_
        refine at_false rfl ?_
        refine at_skip ?_
        refine at_inBlock ?_
        refine at_region ?_
        refine wl_read rfl rfl rfl (yl_move rfl rfl) ?_
        refine wl_read rfl rfl rfl (yl_add rfl rfl rfl (w64 (by omega) (by omega))) ?_
        refine wl_read rfl rfl rfl (yl_assign rfl rfl) ?_
        refine wl_nil ?_
        refine at_keep (Keep.cons 6 rfl (Keep.cons 8 rfl (Keep.cons 12 rfl (Keep.cons 79 rfl (Keep.cons 121 rfl Keep.nil))))) ?_
        exact at_keep (L' := (fun (i : Nat) => [(6, .slice A2 (run s).length c2), (8, .slice A3 (compress (run s)).length c3), (12, .int .i64 (i : Int))]) (i + 1)) (Keep.consEq 6 rfl rfl (Keep.consEq 8 rfl rfl (Keep.consEq 12 rfl rfl Keep.nil))) (ih (i + 1) (by omega) (by omega))
      · intro h15_11
        refine wt_read rfl rfl rfl rfl (yl_move rfl rfl) ?_
        refine wt_skip rfl rfl rfl rfl ?_
        refine wt_skip rfl rfl rfl rfl ?_
        refine wt_skip rfl rfl rfl rfl ?_
        refine wt_skip rfl rfl rfl rfl ?_
        refine wt_skip rfl rfl rfl rfl ?_
        refine wt_skip rfl rfl rfl rfl ?_
        refine wt_skip rfl rfl rfl rfl ?_
        refine wt_skip rfl rfl rfl rfl ?_
        refine wt_skip rfl rfl rfl rfl ?_
        refine wt_skip rfl rfl rfl rfl ?_
        refine wt_skip rfl rfl rfl rfl ?_
        refine wt_skip rfl rfl rfl rfl ?_
        refine wt_read rfl rfl rfl rfl (yl_pickF rfl rfl rfl) ?_
        refine wt_read rfl rfl rfl rfl (yl_move rfl rfl) ?_
        refine wt_read rfl rfl rfl rfl (yl_move rfl rfl) ?_
        refine wt_read rfl rfl rfl rfl (yl_move rfl rfl) ?_
        refine wt_read rfl rfl rfl rfl (yl_sub rfl rfl rfl (w64 (by omega) (by omega))) ?_
        refine wt_read rfl rfl rfl rfl (yl_index rfl rfl rfl (Rd.of_sl 0 rfl) (at_some hi0) (by omega) rfl Try.underlying25 (by kernel_rfl) rfl) ?_
        refine wt_read rfl rfl rfl rfl (yl_field rfl rfl Try.underlying32 rfl (by kernel_rfl) rfl) ?_
        refine wt_read rfl rfl rfl rfl (yl_load rfl rfl Try.underlying3 rfl ((Rd.of_sl 0 rfl).cell2 (at_some hi0) rfl)) ?_
        refine wt_read rfl rfl rfl rfl (yl_move rfl rfl) ?_
        refine wt_read rfl rfl rfl rfl (yl_move rfl rfl) ?_
        refine wt_read rfl rfl rfl rfl (yl_index rfl rfl rfl (Rd.of_sl 0 rfl) (at_some hi1) rfl rfl Try.underlying25 (by kernel_rfl) rfl) ?_
        refine wt_read rfl rfl rfl rfl (yl_field rfl rfl Try.underlying32 rfl (by kernel_rfl) rfl) ?_
        refine wt_read rfl rfl rfl rfl (yl_load rfl rfl Try.underlying3 rfl ((Rd.of_sl 0 rfl).cell2 (at_some hi1) rfl)) ?_
        refine wt_read rfl rfl rfl rfl ((yp_geq rfl rfl rfl).2 (by omega)) ?_
        refine wt_read rfl rfl rfl rfl (yl_pickF rfl rfl rfl) ?_
        refine wt_nil ?_
        refine at_keep (Keep.cons 6 rfl (Keep.cons 8 rfl (Keep.cons 12 rfl (Keep.cons 79 rfl (Keep.cons 121 rfl Keep.nil))))) ?_
        refine at_false rfl ?_
        refine at_skip ?_
        refine at_inBlock ?_
        refine at_region ?_
        refine wl_read rfl rfl rfl (yl_move rfl rfl) ?_
        refine wl_read rfl rfl rfl (yl_add rfl rfl rfl (w64 (by omega) (by omega))) ?_
        refine wl_read rfl rfl rfl (yl_assign rfl rfl) ?_
        refine wl_nil ?_
        refine at_keep (Keep.cons 6 rfl (Keep.cons 8 rfl (Keep.cons 12 rfl (Keep.cons 79 rfl (Keep.cons 121 rfl Keep.nil))))) ?_
        exact at_keep (L' := (fun (i : Nat) => [(6, .slice A2 (run s).length c2), (8, .slice A3 (compress (run s)).length c3), (12, .int .i64 (i : Int))]) (i + 1)) (Keep.consEq 6 rfl rfl (Keep.consEq 8 rfl rfl (Keep.consEq 12 rfl rfl Keep.nil))) (ih (i + 1) (by omega) (by omega))
    · intro h13_3
      refine wl_nil ?_
      refine at_keep (Keep.cons 6 rfl (Keep.cons 8 rfl (Keep.cons 12 rfl (Keep.cons 79 rfl Keep.nil)))) ?_
      refine at_false rfl ?_
      refine at_exit rfl ?_
      refine at_seq ?_
      refine at_seq ?_
      refine at_region ?_
      refine wl_read rfl rfl rfl (yl_move rfl rfl) ?_
      refine wl_read rfl rfl rfl (yl_len rfl rfl Try.underlying25) ?_
      refine wl_split rfl rfl rfl (yp_gtr rfl rfl rfl) ?_ ?_
      · intro h17_2
        refine wl_nil ?_
        refine at_keep (Keep.cons 6 rfl (Keep.cons 8 rfl (Keep.cons 12 rfl (Keep.cons 79 rfl (Keep.cons 124 rfl Keep.nil))))) ?_
        refine at_true rfl ?_
        refine at_seq ?_
        have h0r : 0 < (run s).length := by omega
        have hbf := at_before (run s) hst
        have hm0 := run_month s (show 0 < s.length by omega)
        have hok := hv.2 0 (by omega)
        unfold okSt at hok
        refine at_region ?_
        refine wl_read rfl rfl rfl (yl_move rfl rfl) ?_
        refine wl_read rfl rfl rfl (yl_move rfl rfl) ?_
        refine wl_read rfl rfl rfl (yl_index rfl rfl rfl (Rd.of_sl 1 rfl) (at_some h0r) rfl rfl Try.underlying25 (by kernel_rfl) rfl) ?_
        refine wl_read rfl rfl rfl (yl_field rfl rfl Try.underlying32 rfl (by kernel_rfl) rfl) ?_
        refine wl_read rfl rfl rfl (yl_load rfl rfl Try.underlying3 rfl ((Rd.of_sl 1 rfl).cell2 (at_some h0r) rfl)) ?_
        refine wl_read rfl rfl rfl (yl_sub rfl rfl rfl (w64 (by omega) (by omega))) ?_
        refine wl_call rfl rfl rfl (en_call rfl rfl) (at_no (Rd.of_sl 0 rfl) (by omega) hbf) ?_
        rintro _ _ ⟨rfl, rfl⟩
        refine wl_read rfl rfl rfl (yl_move rfl rfl) ?_
        refine wl_read rfl rfl rfl (yl_extract rfl rfl rfl) ?_
        refine wl_read rfl rfl rfl (yl_extract rfl rfl rfl) ?_
        refine wl_eff rfl rfl rfl (ef_alloc (cs := [.int .i64 0, .int .i64 0, .bool false]) (z := .agg #[.int .i64 0, .int .i64 0, .bool false]) rfl (by kernel_rfl) rfl) ?_
        rintro _ _ ⟨g18_10, rfl, rfl⟩
        refine wl_store rfl rfl (es_at0 (es_storeN 0 rfl rfl rfl rfl (by kernel_rfl) rfl rfl)) ?_
        refine wl_read rfl rfl rfl (yl_assign rfl rfl) ?_
        refine wl_nil ?_
        refine at_keep (Keep.cons 6 rfl (Keep.cons 8 rfl (Keep.cons 12 rfl (Keep.cons 14 rfl (Keep.cons 79 rfl (Keep.cons 124 rfl Keep.nil)))))) ?_
        refine at_seq ?_
        refine at_region ?_
        refine wl_read rfl rfl rfl (yl_move rfl rfl) ?_
        refine wl_read rfl rfl rfl (yl_notF rfl rfl) ?_
        refine wl_read rfl rfl rfl (yl_assign rfl rfl) ?_
        refine wl_nil ?_
        refine at_keep (Keep.cons 4 rfl (Keep.cons 6 rfl (Keep.cons 8 rfl (Keep.cons 12 rfl (Keep.cons 14 rfl (Keep.cons 79 rfl (Keep.cons 124 rfl Keep.nil))))))) ?_
        refine at_retH (fun _ hw => hw.tail.tail.tail.tail) Try.func13 (res1 rfl rfl) ?_
        exact ⟨rfl, rfl⟩
      · intro h17_2
        refine wl_nil ?_
        refine at_keep (Keep.cons 6 rfl (Keep.cons 8 rfl (Keep.cons 12 rfl (Keep.cons 79 rfl (Keep.cons 124 rfl Keep.nil))))) ?_
        refine at_false rfl ?_
        refine at_skip ?_
        refine at_seq ?_
        refine at_region ?_
        refine wl_read rfl rfl rfl (yl_move rfl rfl) ?_
        refine wl_read rfl rfl rfl (yl_len rfl rfl Try.underlying25) ?_
        refine wl_read rfl rfl rfl ((yp_eql rfl rfl rfl).1 (by omega)) ?_
        refine wl_read rfl rfl rfl (yl_assign rfl rfl) ?_
        refine wl_nil ?_
        refine at_keep (Keep.cons 4 rfl (Keep.cons 6 rfl (Keep.cons 8 rfl (Keep.cons 12 rfl (Keep.cons 79 rfl (Keep.cons 124 rfl Keep.nil)))))) ?_
        refine at_retH (fun _ hw => hw.tail.tail.tail) Try.func13 (res1 rfl rfl) ?_
        exact ⟨rfl, rfl⟩
end Go.Proofs.Yteckaphnapljnaa

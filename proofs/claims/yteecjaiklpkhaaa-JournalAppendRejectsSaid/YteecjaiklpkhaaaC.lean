/- Walks of Append, Records and of the calls on the journal of the reference. -/
import Derived.Test.YteecjaiklpkhaaaB
namespace Go.Proofs.Yteecjaiklpkhaaa
open Go

theorem append_bad (rs : List (List UInt8)) (fl g : Nat) (b : World) (H : List Asr) (bs : List UInt8) (A0 : Option Addr) (c0 : Nat) (hs : ¬ okR bs) : Fn Try.prog 17 [.pointer (some ⟨g, 0, none⟩), .slice A0 bs.length c0] b (Jn g rs fl :: H) (fun v H' => v = .int .i64 1 ∧ Jn g rs fl :: H = H') := by
  unfold okR at hs
  refine fn_of_at (by kernel_rfl) Try.func17 rfl Try.ntmps17 rfl rfl ?_
  refine at_seq ?_
  refine at_region ?_
  refine wl_read rfl rfl rfl (yl_assign rfl rfl) ?_
  refine wl_nil ?_
  refine at_keep (Keep.cons 0 rfl (Keep.cons 1 rfl (Keep.cons 4 rfl Keep.nil))) ?_
  refine at_seq ?_
  refine at_seq ?_
  refine at_region ?_
  refine wl_read rfl rfl rfl (yl_move rfl rfl) ?_
  refine wl_read rfl rfl rfl (yl_eqPtr rfl rfl rfl (by kernel_rfl) rfl) ?_
  refine wl_read rfl rfl rfl (yl_move rfl rfl) ?_
  refine wl_read rfl rfl rfl (yl_move rfl rfl) ?_
  refine wl_read rfl rfl rfl (yl_len rfl rfl Try.underlying30) ?_
  refine wl_split rfl rfl rfl (yp_eql rfl rfl rfl) ?_ ?_
  · intro h1_5
    refine wl_read rfl rfl rfl (yl_pickF rfl rfl rfl) ?_
    refine wl_read rfl rfl rfl (yl_move rfl rfl) ?_
    refine wl_skip rfl rfl rfl ?_
    refine wl_skip rfl rfl rfl ?_
    refine wl_skip rfl rfl rfl ?_
    refine wl_read rfl rfl rfl (yl_pickT rfl rfl rfl) ?_
    refine wl_nil ?_
    refine at_keep (Keep.cons 0 rfl (Keep.cons 1 rfl (Keep.cons 4 rfl (Keep.cons 18 rfl Keep.nil)))) ?_
    refine at_true rfl ?_
    refine at_seq ?_
    refine at_region ?_
    refine wl_read rfl rfl rfl (yl_assign rfl rfl) ?_
    refine wl_nil ?_
    refine at_keep (Keep.cons 0 rfl (Keep.cons 1 rfl (Keep.cons 4 rfl (Keep.cons 18 rfl Keep.nil)))) ?_
    refine at_ret Try.func17 (res1 rfl rfl) ?_
    exact ⟨rfl, rfl⟩
  · intro h1_5
    refine wl_read rfl rfl rfl (yl_pickF rfl rfl rfl) ?_
    refine wl_read rfl rfl rfl (yl_move rfl rfl) ?_
    refine wl_read rfl rfl rfl (yl_move rfl rfl) ?_
    refine wl_read rfl rfl rfl (yl_len rfl rfl Try.underlying30) ?_
    refine wl_split rfl rfl rfl (yp_gtr rfl rfl rfl) ?_ ?_
    · intro h1_10
      refine wl_read rfl rfl rfl (yl_pickF rfl rfl rfl) ?_
      refine wl_nil ?_
      refine at_keep (Keep.cons 0 rfl (Keep.cons 1 rfl (Keep.cons 4 rfl (Keep.cons 18 rfl Keep.nil)))) ?_
      refine at_true rfl ?_
      refine at_seq ?_
      refine at_region ?_
      refine wl_read rfl rfl rfl (yl_assign rfl rfl) ?_
      refine wl_nil ?_
      refine at_keep (Keep.cons 0 rfl (Keep.cons 1 rfl (Keep.cons 4 rfl (Keep.cons 18 rfl Keep.nil)))) ?_
      refine at_ret Try.func17 (res1 rfl rfl) ?_
      exact ⟨rfl, rfl⟩
    · intro h1_10
      exact absurd (by omega) hs
theorem append_fn (rs : List (List UInt8)) (fl g : Nat) (b : World) (H : List Asr) (bs : List UInt8) (A0 : Option Addr) (c0 : Nat) (hs : okR bs) (hn : rs.length < 20000) (hl : (jenc rs).length ≤ 100000000) (hR : Rd H A0 bs) : Fn Try.prog 17 [.pointer (some ⟨g, 0, none⟩), .slice A0 bs.length c0] b (Jn g rs fl :: H) (fun v H' => v = .int .i64 0 ∧ Jn g (rs ++ [bs]) fl :: H = H') := by
  unfold okR at hs
  refine Jn.fn fun A c A2 c2 => ?_
  have hsl := spans_len rs 0
  have hcr := crc_lt bs
  have hB1 : (jenc rs ++ [b8 (bs.length / 256), b8 bs.length]).length = (jenc rs).length + 2 := by simp
  have e1 : ((jenc rs ++ [b8 (bs.length / 256), b8 bs.length]) ++ bs) ++ [b8 (crc bs / 16777216), b8 (crc bs / 65536), b8 (crc bs / 256), b8 (crc bs)] = jenc (rs ++ [bs]) := by rw [jenc_snoc]; simp [fr, be4]
  have e2 : spans 0 rs ++ [(⟨(((jenc rs ++ [b8 (bs.length / 256), b8 bs.length]).length : Nat) : Int), (((jenc rs ++ [b8 (bs.length / 256), b8 bs.length]).length : Nat) : Int) + (bs.length : Int)⟩ : Sp)] = spans 0 (rs ++ [bs]) := by
    rw [spans_snoc]
    refine congrArg (fun z => spans 0 rs ++ [z]) ?_
    simp only [Sp.mk.injEq]
    omega
  refine fn_of_at (by kernel_rfl) Try.func17 rfl Try.ntmps17 rfl rfl ?_
  refine at_seq ?_
  refine at_region ?_
  refine wl_read rfl rfl rfl (yl_assign rfl rfl) ?_
  refine wl_nil ?_
  refine at_keep (Keep.cons 0 rfl (Keep.cons 1 rfl (Keep.cons 4 rfl Keep.nil))) ?_
  refine at_seq ?_
  refine at_seq ?_
  refine at_region ?_
  refine wl_read rfl rfl rfl (yl_move rfl rfl) ?_
  refine wl_read rfl rfl rfl (yl_eqPtr rfl rfl rfl (by kernel_rfl) rfl) ?_
  refine wl_read rfl rfl rfl (yl_move rfl rfl) ?_
  refine wl_read rfl rfl rfl (yl_move rfl rfl) ?_
  refine wl_read rfl rfl rfl (yl_len rfl rfl Try.underlying30) ?_
  refine wl_read rfl rfl rfl ((yp_eql rfl rfl rfl).2 (by omega)) ?_
  refine wl_read rfl rfl rfl (yl_pickF rfl rfl rfl) ?_
  refine wl_read rfl rfl rfl (yl_move rfl rfl) ?_
  refine wl_read rfl rfl rfl (yl_move rfl rfl) ?_
  refine wl_read rfl rfl rfl (yl_len rfl rfl Try.underlying30) ?_
  refine wl_read rfl rfl rfl ((yp_gtr rfl rfl rfl).2 (by omega)) ?_
  refine wl_read rfl rfl rfl (yl_pickF rfl rfl rfl) ?_
  refine wl_nil ?_
  refine at_keep (Keep.cons 0 rfl (Keep.cons 1 rfl (Keep.cons 4 rfl (Keep.cons 18 rfl Keep.nil)))) ?_
  refine at_false rfl ?_
  refine at_skip ?_
  refine at_seq ?_
  refine at_seq ?_
  refine at_region ?_
  refine wl_read rfl rfl rfl (yl_move rfl rfl) ?_
  refine wl_read rfl rfl rfl (yl_nilCheck rfl rfl) ?_
  refine wl_read rfl rfl rfl (yl_fieldB rfl rfl Try.underlying55 rfl (by kernel_rfl) rfl) ?_
  refine wl_read rfl rfl rfl (yl_load rfl rfl Try.underlying53 rfl (CellAt.bk 0 rfl rfl)) ?_
  refine wl_read rfl rfl rfl (yl_len rfl rfl Try.underlying53) ?_
  refine wl_read rfl rfl rfl ((yp_geq rfl rfl rfl).2 (by omega)) ?_
  refine wl_nil ?_
  refine at_keep (Keep.cons 0 rfl (Keep.cons 1 rfl (Keep.cons 4 rfl (Keep.cons 18 rfl (Keep.cons 24 rfl Keep.nil))))) ?_
  refine at_false rfl ?_
  refine at_skip ?_
  refine at_seq ?_
  refine at_region ?_
  refine wl_read rfl rfl rfl (yl_move rfl rfl) ?_
  refine wl_call rfl rfl rfl (en_call rfl rfl) (sum_fn bs A0 c0 _ _ (((hR.cons _).cons _).cons _) (by omega)) ?_
  rintro _ _ ⟨rfl, rfl⟩
  refine wl_read rfl rfl rfl (yl_assign rfl rfl) ?_
  refine wl_nil ?_
  refine at_keep (Keep.cons 0 rfl (Keep.cons 1 rfl (Keep.cons 4 rfl (Keep.cons 5 rfl (Keep.cons 18 rfl (Keep.cons 24 rfl Keep.nil)))))) ?_
  refine at_seq ?_
  refine at_region ?_
  refine wl_read rfl rfl rfl (yl_move rfl rfl) ?_
  refine wl_read rfl rfl rfl (yl_move rfl rfl) ?_
  refine wl_read rfl rfl rfl (yl_nilCheck rfl rfl) ?_
  refine wl_read rfl rfl rfl (yl_fieldB rfl rfl Try.underlying55 rfl (by kernel_rfl) rfl) ?_
  refine wl_read rfl rfl rfl (yl_load rfl rfl Try.underlying30 rfl (CellAt.bk 0 rfl rfl)) ?_
  refine wl_read rfl rfl rfl (yl_move rfl rfl) ?_
  refine wl_read rfl rfl rfl (yl_len rfl rfl Try.underlying30) ?_
  refine wl_read rfl rfl rfl (yl_shr (r := ((bs.length / 256 : Nat) : Int)) rfl rfl rfl (by decide) (by decide) (shr_nat _ 8)) ?_
  refine wl_read rfl rfl rfl (yl_conv rfl rfl rfl Try.underlying5 (wrap8 _)) ?_
  refine wl_read rfl rfl rfl (yl_move rfl rfl) ?_
  refine wl_read rfl rfl rfl (yl_len rfl rfl Try.underlying30) ?_
  refine wl_read rfl rfl rfl (yl_conv rfl rfl rfl Try.underlying5 (wrap8 _)) ?_
  refine wl_eff rfl rfl rfl (ef_buildSlice (e := 5) [b8 (bs.length / 256), b8 bs.length] rfl rfl (fun _ => by kernel_rfl) rfl rfl) ?_
  rintro _ _ ⟨T6_12, rfl, rfl⟩
  refine wl_eff rfl rfl rfl (ef_append (ys := [b8 (bs.length / 256), b8 bs.length]) 2 rfl rfl rfl rfl (Rd.of_sl 0 rfl) Try.underlying30 info5 rfl rfl (by simp only [List.length_append, List.length_cons, List.length_nil, maxLen]; omega) (by simp only [List.length_append, List.length_cons, List.length_nil]; omega)) ?_
  rintro _ _ ⟨A5, c5, rfl, hH⟩
  simp only [List.set_cons_succ, List.set_cons_zero] at hH; subst hH
  refine wl_read rfl rfl rfl (yl_nilCheck rfl rfl) ?_
  refine wl_read rfl rfl rfl (yl_fieldB rfl rfl Try.underlying55 rfl (by kernel_rfl) rfl) ?_
  refine wl_store rfl rfl (es_at1 (es_store 1 rfl rfl rfl rfl (by kernel_rfl) rfl rfl)) ?_
  refine wl_nil ?_
  refine at_keep (Keep.cons 0 rfl (Keep.cons 1 rfl (Keep.cons 4 rfl (Keep.cons 5 rfl (Keep.cons 18 rfl (Keep.cons 24 rfl Keep.nil)))))) ?_
  refine at_seq ?_
  refine at_draw0 (.fl 0 (.fl 1 (.fl 2 (.fl 3 (.fl 4 (.fl 5 (.fl 6 (.fl 7 (.fl 8 (.fl 9 (.fl 10 (.fl 11 (.fl 12 (.fl 13 (.ef 14 (.ef 15 .nil)))))))))))))))) (by kernel_rfl) (by kernel_rfl) ?_
  refine wt_read rfl rfl rfl rfl (yl_move rfl rfl) ?_
  refine wt_read rfl rfl rfl rfl (yl_nilCheck rfl rfl) ?_
  refine wt_read rfl rfl rfl rfl (yl_fieldB rfl rfl Try.underlying55 rfl (by kernel_rfl) rfl) ?_
  refine wt_read rfl rfl rfl rfl (yl_load rfl rfl Try.underlying30 rfl (CellAt.bk 1 rfl rfl)) ?_
  refine wt_read rfl rfl rfl rfl (yl_len rfl rfl Try.underlying30) ?_
  refine wt_read rfl rfl rfl rfl (yl_move rfl rfl) ?_
  refine wt_read rfl rfl rfl rfl (yl_nilCheck rfl rfl) ?_
  refine wt_read rfl rfl rfl rfl (yl_fieldB rfl rfl Try.underlying55 rfl (by kernel_rfl) rfl) ?_
  refine wt_read rfl rfl rfl rfl (yl_load rfl rfl Try.underlying30 rfl (CellAt.bk 1 rfl rfl)) ?_
  refine wt_read rfl rfl rfl rfl (yl_len rfl rfl Try.underlying30) ?_
  refine wt_read rfl rfl rfl rfl (yl_move rfl rfl) ?_
  refine wt_read rfl rfl rfl rfl (yl_len rfl rfl Try.underlying30) ?_
  refine wt_read rfl rfl rfl rfl (yl_add rfl rfl rfl (w64 (by omega) (by omega))) ?_
  refine wt_read rfl rfl rfl rfl (yl_build (cs := [.int .i64 (((jenc rs ++ [b8 (bs.length / 256), b8 bs.length]).length : Nat) : Int), .int .i64 ((((jenc rs ++ [b8 (bs.length / 256), b8 bs.length]).length : Nat) : Int) + (bs.length : Int))]) rfl rfl (fun _ => by kernel_rfl)) ?_
  refine wt_eff rfl rfl rfl rfl (ef_alloc (cs := [.int .i64 0, .int .i64 0]) (z := .agg #[.int .i64 0, .int .i64 0]) rfl (by kernel_rfl) rfl) ?_
  rintro _ _ ⟨gs, rfl, rfl⟩
  refine ⟨⟨[_], rfl⟩, ?_⟩
  refine wt_store rfl rfl rfl (es_at0 (es_storeN 0 rfl rfl rfl rfl (by kernel_rfl) rfl rfl)) ⟨[_], rfl⟩ ?_
  refine wt_nil ?_
  refine at_keep (Keep.cons 0 rfl (Keep.cons 1 rfl (Keep.cons 4 rfl (Keep.cons 5 rfl (Keep.cons 6 rfl (Keep.cons 18 rfl (Keep.cons 24 rfl Keep.nil))))))) ?_
  refine at_seq ?_
  refine at_region ?_
  refine wl_read rfl rfl rfl (yl_move rfl rfl) ?_
  refine wl_read rfl rfl rfl (yl_move rfl rfl) ?_
  refine wl_read rfl rfl rfl (yl_nilCheck rfl rfl) ?_
  refine wl_read rfl rfl rfl (yl_fieldB rfl rfl Try.underlying55 rfl (by kernel_rfl) rfl) ?_
  refine wl_read rfl rfl rfl (yl_load rfl rfl Try.underlying30 rfl (CellAt.bk 2 rfl rfl)) ?_
  refine wl_read rfl rfl rfl (yl_move rfl rfl) ?_
  refine wl_eff rfl rfl rfl (ef_append (ys := bs) 3 rfl rfl rfl rfl (((((hR.cons _).cons _).cons _).cons _).cons _) Try.underlying30 info5 rfl rfl (by simp only [List.length_append, List.length_cons, List.length_nil, maxLen]; omega) (by simp only [List.length_append, List.length_cons, List.length_nil]; omega)) ?_
  rintro _ _ ⟨A6, c6, rfl, hH⟩
  simp only [List.set_cons_succ, List.set_cons_zero] at hH; subst hH
  refine wl_read rfl rfl rfl (yl_nilCheck rfl rfl) ?_
  refine wl_read rfl rfl rfl (yl_fieldB rfl rfl Try.underlying55 rfl (by kernel_rfl) rfl) ?_
  refine wl_store rfl rfl (es_at2 (es_store 2 rfl rfl rfl rfl (by kernel_rfl) rfl rfl)) ?_
  refine wl_nil ?_
  refine at_keep (Keep.cons 0 rfl (Keep.cons 1 rfl (Keep.cons 4 rfl (Keep.cons 5 rfl (Keep.cons 6 rfl (Keep.cons 18 rfl (Keep.cons 24 rfl Keep.nil))))))) ?_
  refine at_seq ?_
  refine at_region ?_
  refine wl_read rfl rfl rfl (yl_move rfl rfl) ?_
  refine wl_read rfl rfl rfl (yl_move rfl rfl) ?_
  refine wl_read rfl rfl rfl (yl_nilCheck rfl rfl) ?_
  refine wl_read rfl rfl rfl (yl_fieldB rfl rfl Try.underlying55 rfl (by kernel_rfl) rfl) ?_
  refine wl_read rfl rfl rfl (yl_load rfl rfl Try.underlying30 rfl (CellAt.bk 2 rfl rfl)) ?_
  refine wl_read rfl rfl rfl (yl_move rfl rfl) ?_
  refine wl_read rfl rfl rfl (yl_shr (r := ((crc bs / 16777216 : Nat) : Int)) rfl rfl rfl (by decide) (by decide) (shr_nat _ 24)) ?_
  refine wl_read rfl rfl rfl (yl_conv rfl rfl rfl Try.underlying5 (wrap8 _)) ?_
  refine wl_read rfl rfl rfl (yl_move rfl rfl) ?_
  refine wl_read rfl rfl rfl (yl_shr (r := ((crc bs / 65536 : Nat) : Int)) rfl rfl rfl (by decide) (by decide) (shr_nat _ 16)) ?_
  refine wl_read rfl rfl rfl (yl_conv rfl rfl rfl Try.underlying5 (wrap8 _)) ?_
  refine wl_read rfl rfl rfl (yl_move rfl rfl) ?_
  refine wl_read rfl rfl rfl (yl_shr (r := ((crc bs / 256 : Nat) : Int)) rfl rfl rfl (by decide) (by decide) (shr_nat _ 8)) ?_
  refine wl_read rfl rfl rfl (yl_conv rfl rfl rfl Try.underlying5 (wrap8 _)) ?_
  refine wl_read rfl rfl rfl (yl_move rfl rfl) ?_
  refine wl_read rfl rfl rfl (yl_conv rfl rfl rfl Try.underlying5 (wrap8 _)) ?_
  refine wl_eff rfl rfl rfl (ef_buildSlice (e := 5) [b8 (crc bs / 16777216), b8 (crc bs / 65536), b8 (crc bs / 256), b8 (crc bs)] rfl rfl (fun _ => by kernel_rfl) rfl rfl) ?_
  rintro _ _ ⟨T9_16, rfl, rfl⟩
  refine wl_eff rfl rfl rfl (ef_append (ys := [b8 (crc bs / 16777216), b8 (crc bs / 65536), b8 (crc bs / 256), b8 (crc bs)]) 4 rfl rfl rfl rfl (Rd.of_sl 0 rfl) Try.underlying30 info5 rfl rfl (by simp only [List.length_append, List.length_cons, List.length_nil, maxLen]; omega) (by simp only [List.length_append, List.length_cons, List.length_nil]; omega)) ?_
  rintro _ _ ⟨A7, c7, rfl, hH⟩
  simp only [List.set_cons_succ, List.set_cons_zero] at hH; subst hH
  rw [e1]
  refine wl_read rfl rfl rfl (yl_nilCheck rfl rfl) ?_
  refine wl_read rfl rfl rfl (yl_fieldB rfl rfl Try.underlying55 rfl (by kernel_rfl) rfl) ?_
  refine wl_store rfl rfl (es_at3 (es_store 3 rfl rfl rfl rfl (by kernel_rfl) rfl rfl)) ?_
  refine wl_nil ?_
  refine at_keep (Keep.cons 0 rfl (Keep.cons 1 rfl (Keep.cons 4 rfl (Keep.cons 5 rfl (Keep.cons 6 rfl (Keep.cons 18 rfl (Keep.cons 24 rfl Keep.nil))))))) ?_
  refine at_seq ?_
  refine at_heap (fun _ hw => hw.front3.front5) ?_
  refine at_draw2 (.fl 0 (.fl 1 (.fl 2 (.fl 3 (.fl 5 (.ef2 4 (.ef 6 (.ef 7 (.fl 8 (.fl 9 (.ef 10 .nil))))) 6 (.ef 4 (.ef 7 (.fl 8 (.fl 9 (.ef 10 .nil))))))))))) (by kernel_rfl) (by kernel_rfl) ?_
  refine wt_read rfl rfl rfl rfl (yl_move rfl rfl) ?_
  refine wt_read rfl rfl rfl rfl (yl_move rfl rfl) ?_
  refine wt_read rfl rfl rfl rfl (yl_nilCheck rfl rfl) ?_
  refine wt_read rfl rfl rfl rfl (yl_fieldB rfl rfl Try.underlying55 rfl (by kernel_rfl) rfl) ?_
  refine wt_read rfl rfl rfl rfl (yl_loadBk 1 rfl rfl rfl Try.underlying58 rfl (by kernel_rfl)) ?_
  refine wt_two ?_ ?_
  ·
    refine wt_readE rfl rfl rfl rfl (yl_load rfl rfl Try.underlying53 rfl (CellAt.bk 1 rfl rfl)) ⟨[_, _], rfl⟩ ?_
    refine wt_eff rfl rfl rfl rfl (ef_buildSlice (e := 58) [(⟨(((jenc rs ++ [b8 (bs.length / 256), b8 bs.length]).length : Nat) : Int), (((jenc rs ++ [b8 (bs.length / 256), b8 bs.length]).length : Nat) : Int) + (bs.length : Int)⟩ : Sp)] rfl rfl (fun _ => by kernel_rfl) rfl rfl) ?_
    rintro _ _ ⟨T10_6, rfl, rfl⟩
    refine ⟨⟨[_, _, _], rfl⟩, ?_⟩
    refine wt_eff rfl rfl rfl rfl (ef_append (ys := [(⟨(((jenc rs ++ [b8 (bs.length / 256), b8 bs.length]).length : Nat) : Int), (((jenc rs ++ [b8 (bs.length / 256), b8 bs.length]).length : Nat) : Int) + (bs.length : Int)⟩ : Sp)]) 1 rfl rfl rfl rfl (Rd.of_sl 0 rfl) Try.underlying53 info58 rfl rfl (by simp only [List.length_append, List.length_cons, List.length_nil, maxLen]; omega) (by simp only [List.length_append, List.length_cons, List.length_nil]; omega)) ?_
    rintro _ _ ⟨A8, c8, rfl, hH⟩
    simp only [List.set_cons_succ, List.set_cons_zero] at hH; subst hH
    refine ⟨⟨[_, _, _], rfl⟩, ?_⟩
    rw [e2]
    refine wt_read rfl rfl rfl rfl (yl_nilCheck rfl rfl) ?_
    refine wt_read rfl rfl rfl rfl (yl_fieldB rfl rfl Try.underlying55 rfl (by kernel_rfl) rfl) ?_
    refine wt_store rfl rfl rfl (es_at2 (es_store 2 rfl rfl rfl rfl (by kernel_rfl) rfl rfl)) ⟨[_, _, _], rfl⟩ ?_
    refine wt_nil ?_
    refine at_keep (Keep.cons 0 rfl (Keep.cons 1 rfl (Keep.cons 4 rfl (Keep.cons 5 rfl (Keep.cons 6 rfl (Keep.cons 18 rfl (Keep.cons 24 rfl Keep.nil))))))) ?_
    refine at_seq ?_
    refine at_region ?_
    refine wl_read rfl rfl rfl (yl_assign rfl rfl) ?_
    refine wl_nil ?_
    refine at_keep (Keep.cons 0 rfl (Keep.cons 1 rfl (Keep.cons 4 rfl (Keep.cons 5 rfl (Keep.cons 6 rfl (Keep.cons 18 rfl (Keep.cons 24 rfl Keep.nil))))))) ?_
    refine at_retH (fun _ hw => (Jn.closes (rs := rs ++ [bs]) (fl := fl) (hw.front1.front6.front3.drop3.drop3.drop3.drop3))) Try.func17 (res1 rfl rfl) ?_
    exact ⟨rfl, rfl⟩
  ·
    refine wt_eff rfl rfl rfl rfl (ef_buildSlice (e := 58) [(⟨(((jenc rs ++ [b8 (bs.length / 256), b8 bs.length]).length : Nat) : Int), (((jenc rs ++ [b8 (bs.length / 256), b8 bs.length]).length : Nat) : Int) + (bs.length : Int)⟩ : Sp)] rfl rfl (fun _ => by kernel_rfl) rfl rfl) ?_
    rintro _ _ ⟨T10_6, rfl, rfl⟩
    refine ⟨⟨[_, _, _], rfl⟩, ?_⟩
    refine wt_readE rfl rfl rfl rfl (yl_load rfl rfl Try.underlying53 rfl (CellAt.bk 2 rfl rfl)) ⟨[_, _, _], rfl⟩ ?_
    refine wt_eff rfl rfl rfl rfl (ef_append (ys := [(⟨(((jenc rs ++ [b8 (bs.length / 256), b8 bs.length]).length : Nat) : Int), (((jenc rs ++ [b8 (bs.length / 256), b8 bs.length]).length : Nat) : Int) + (bs.length : Int)⟩ : Sp)]) 1 rfl rfl rfl rfl (Rd.of_sl 0 rfl) Try.underlying53 info58 rfl rfl (by simp only [List.length_append, List.length_cons, List.length_nil, maxLen]; omega) (by simp only [List.length_append, List.length_cons, List.length_nil]; omega)) ?_
    rintro _ _ ⟨A8, c8, rfl, hH⟩
    simp only [List.set_cons_succ, List.set_cons_zero] at hH; subst hH
    refine ⟨⟨[_, _, _], rfl⟩, ?_⟩
    rw [e2]
    refine wt_read rfl rfl rfl rfl (yl_nilCheck rfl rfl) ?_
    refine wt_read rfl rfl rfl rfl (yl_fieldB rfl rfl Try.underlying55 rfl (by kernel_rfl) rfl) ?_
    refine wt_store rfl rfl rfl (es_at2 (es_store 2 rfl rfl rfl rfl (by kernel_rfl) rfl rfl)) ⟨[_, _, _], rfl⟩ ?_
    refine wt_nil ?_
    refine at_keep (Keep.cons 0 rfl (Keep.cons 1 rfl (Keep.cons 4 rfl (Keep.cons 5 rfl (Keep.cons 6 rfl (Keep.cons 18 rfl (Keep.cons 24 rfl Keep.nil))))))) ?_
    refine at_seq ?_
    refine at_region ?_
    refine wl_read rfl rfl rfl (yl_assign rfl rfl) ?_
    refine wl_nil ?_
    refine at_keep (Keep.cons 0 rfl (Keep.cons 1 rfl (Keep.cons 4 rfl (Keep.cons 5 rfl (Keep.cons 6 rfl (Keep.cons 18 rfl (Keep.cons 24 rfl Keep.nil))))))) ?_
    refine at_retH (fun _ hw => (Jn.closes (rs := rs ++ [bs]) (fl := fl) (hw.front1.front6.front3.drop3.drop3.drop3.drop3))) Try.func17 (res1 rfl rfl) ?_
    exact ⟨rfl, rfl⟩
theorem append_any (rs : List (List UInt8)) (fl g : Nat) (b : World) (H : List Asr) (bs : List UInt8) (A0 : Option Addr) (c0 : Nat) (hn : rs.length < 20000) (hl : (jenc rs).length ≤ 100000000) (hR : Rd H A0 bs) : Fn Try.prog 17 [.pointer (some ⟨g, 0, none⟩), .slice A0 bs.length c0] b (Jn g rs fl :: H)
    (fun v H' => (okR bs ∧ v = .int .i64 0 ∧ Jn g (rs ++ [bs]) fl :: H = H') ∨ (¬ okR bs ∧ v = .int .i64 1 ∧ Jn g rs fl :: H = H')) := by
  rcases Classical.em (okR bs) with hs | hs
  · exact (append_fn rs fl g b H bs A0 c0 hs hn hl hR).mono (by rintro v H' ⟨h1, h2⟩; exact .inl ⟨hs, h1, h2⟩)
  · exact (append_bad rs fl g b H bs A0 c0 hs).mono (by rintro v H' ⟨h1, h2⟩; exact .inr ⟨hs, h1, h2⟩)

theorem records_fn (rs : List (List UInt8)) (fl g : Nat) (b : World) (H : List Asr) (hr : rs.length ≤ 1000000) (hl : (jenc rs).length ≤ 100000000) : Fn Try.prog 19 [.pointer (some ⟨g, 0, none⟩)] b (Jn g rs fl :: H)
    (fun v H' => ∃ A' c' out, v = .slice A' out.length c' ∧ recs out = rs ∧ H' = Sl A' c' 30 out :: Pcs out :: Jn g rs fl :: H) := by
  refine Jn.fn fun A c A2 c2 => Fn.know (by kernel_rfl) (p := (jenc rs).length ≤ c) (fun w hw => hw.slCap 1 rfl) (fun hcap => ?_)
  have hsl := spans_len rs 0
  refine fn_of_at (by kernel_rfl) Try.func19 rfl Try.ntmps19 rfl rfl ?_
  refine at_seq ?_
  refine at_region ?_
  refine wl_read rfl rfl rfl (yl_assign rfl rfl) ?_
  refine wl_nil ?_
  refine at_keep (Keep.cons 0 rfl (Keep.cons 2 rfl Keep.nil)) ?_
  refine at_seq ?_
  refine at_seq ?_
  refine at_region ?_
  refine wl_read rfl rfl rfl (yl_move rfl rfl) ?_
  refine wl_read rfl rfl rfl (yl_eqPtr rfl rfl rfl (by kernel_rfl) rfl) ?_
  refine wl_nil ?_
  refine at_keep (Keep.cons 0 rfl (Keep.cons 2 rfl (Keep.cons 7 rfl Keep.nil))) ?_
  refine at_false rfl ?_
  refine at_skip ?_
  refine at_seq ?_
  refine at_region ?_
  refine wl_read rfl rfl rfl (yl_assign rfl rfl) ?_
  refine wl_nil ?_
  refine at_keep (Keep.cons 0 rfl (Keep.cons 2 rfl (Keep.cons 3 rfl (Keep.cons 7 rfl Keep.nil)))) ?_
  refine at_seq ?_
  refine at_seq ?_
  refine at_region ?_
  refine wl_read rfl rfl rfl (yl_move rfl rfl) ?_
  refine wl_read rfl rfl rfl (yl_nilCheck rfl rfl) ?_
  refine wl_read rfl rfl rfl (yl_fieldB rfl rfl Try.underlying55 rfl (by kernel_rfl) rfl) ?_
  refine wl_read rfl rfl rfl (yl_load rfl rfl Try.underlying53 rfl (CellAt.bk 0 rfl rfl)) ?_
  refine wl_read rfl rfl rfl (yl_len rfl rfl Try.underlying53) ?_
  refine wl_read rfl rfl rfl (yl_move rfl rfl) ?_
  refine wl_nil ?_
  refine at_keep (Keep.cons 0 rfl (Keep.cons 2 rfl (Keep.cons 3 rfl (Keep.cons 7 rfl (Keep.cons 11 rfl (Keep.cons 12 rfl (Keep.cons 13 rfl Keep.nil))))))) ?_
  refine at_block ?_
  refine at_keep (L' := (fun (j : Nat) (A3 : Option Addr) (c3 : Nat) (out : List (Mem UInt8)) => [(0, .pointer (some ⟨g, 0, none⟩)), (3, .slice A3 out.length c3), (11, .slice A2 (spans 0 rs).length c2), (12, .int .i64 ((spans 0 rs).length : Int)), (13, .int .i64 (j : Int))]) 0 none 0 []) (Keep.consEq 0 rfl rfl (Keep.consEq 3 rfl rfl (Keep.consEq 11 rfl rfl (Keep.consEq 12 rfl rfl (Keep.consEq 13 rfl rfl Keep.nil))))) ?_
  refine at_heap (fun _ hw => hw.pcsNil.nilSl (α := Mem UInt8) 30) ?_
  refine at_loop4 (fun (j : Nat) (A3 : Option Addr) (c3 : Nat) (out : List (Mem UInt8)) => j ≤ rs.length ∧ recs out = rs.take j) (fun (j : Nat) (A3 : Option Addr) (c3 : Nat) (out : List (Mem UInt8)) => [(0, .pointer (some ⟨g, 0, none⟩)), (3, .slice A3 out.length c3), (11, .slice A2 (spans 0 rs).length c2), (12, .int .i64 ((spans 0 rs).length : Int)), (13, .int .i64 (j : Int))]) (fun (j : Nat) (A3 : Option Addr) (c3 : Nat) (out : List (Mem UInt8)) => Sl A3 c3 30 out :: Pcs out :: jnB g A (jenc rs) c fl A2 (spans 0 rs) c2 :: Sl A c 5 (jenc rs) :: Sl A2 c2 58 (spans 0 rs) :: H) (fun (j : Nat) (A3 : Option Addr) (c3 : Nat) (out : List (Mem UInt8)) => rs.length - j) 0 none 0 [] ⟨by omega, rfl⟩ ?_
  intro j A3 c3 out hI ih
  obtain ⟨hI1, hI2⟩ := hI
  refine at_seq ?_
  refine at_region ?_
  refine wl_split rfl rfl rfl (yp_lss rfl rfl rfl) ?_ ?_
  · intro h5_0
    refine wl_nil ?_
    refine at_keep (Keep.cons 0 rfl (Keep.cons 3 rfl (Keep.cons 11 rfl (Keep.cons 12 rfl (Keep.cons 13 rfl (Keep.cons 14 rfl Keep.nil)))))) ?_
    refine at_seq ?_
    refine at_true rfl ?_
    refine at_skip ?_
    refine at_seq ?_
    refine at_block ?_
    refine at_seq ?_
    have hj : j < rs.length := by omega
    have hjs : j < (spans 0 rs).length := by omega
    have hsp := spans_at rs 0 j hj
    have hin := jenc_in rs j hj
    have hol : out.length = j := by have := congrArg List.length hI2; simpa [recs, Nat.le_of_lt hj] using this
    refine at_region ?_
    refine wl_read rfl rfl rfl (yl_index rfl rfl rfl (Rd.of_sl 4 rfl) (at_some hjs) rfl rfl Try.underlying53 (by kernel_rfl) rfl) ?_
    refine wl_read rfl rfl rfl (yl_loadRow rfl rfl (Rd.of_sl 4 rfl) (at_some hjs) Try.underlying58 rfl (by kernel_rfl) rfl) ?_
    refine wl_eff rfl rfl rfl (ef_alloc (cs := [.int .i64 0, .int .i64 0]) (z := .agg #[.int .i64 0, .int .i64 0]) rfl (by kernel_rfl) rfl) ?_
    rintro _ _ ⟨gp, rfl, rfl⟩
    refine wl_store rfl rfl (es_at0 (es_storeN 0 rfl rfl rfl rfl (by kernel_rfl) rfl rfl)) ?_
    refine wl_nil ?_
    refine at_keep (Keep.cons 0 rfl (Keep.cons 3 rfl (Keep.cons 5 rfl (Keep.cons 11 rfl (Keep.cons 12 rfl (Keep.cons 13 rfl (Keep.cons 14 rfl Keep.nil))))))) ?_
    refine at_heap (fun _ hw => hw.front1) ?_
    refine at_draw1 (.fl 0 (.fl 1 (.fl 2 (.fl 3 (.fl 4 (.fl 5 (.fl 6 (.fl 7 (.fl 8 (.fl 9 (.ef 10 (.ef 11 (.ef 12 (.fl 13 .nil)))))))))))))) (by kernel_rfl) (by kernel_rfl) ?_
    refine wt_read rfl rfl rfl rfl (yl_move rfl rfl) ?_
    refine wt_read rfl rfl rfl rfl (yl_move rfl rfl) ?_
    refine wt_read rfl rfl rfl rfl (yl_nilCheck rfl rfl) ?_
    refine wt_read rfl rfl rfl rfl (yl_fieldB rfl rfl Try.underlying55 rfl (by kernel_rfl) rfl) ?_
    refine wt_read rfl rfl rfl rfl (yl_load rfl rfl Try.underlying30 rfl (CellAt.bk 2 rfl rfl)) ?_
    refine wt_read rfl rfl rfl rfl (yl_fieldB rfl rfl Try.underlying58 rfl (by kernel_rfl) rfl) ?_
    refine wt_read rfl rfl rfl rfl (yl_load rfl rfl Try.underlying3 rfl (CellAt.bk 0 rfl rfl)) ?_
    refine wt_read rfl rfl rfl rfl (yl_fieldB rfl rfl Try.underlying58 rfl (by kernel_rfl) rfl) ?_
    refine wt_read rfl rfl rfl rfl (yl_load rfl rfl Try.underlying3 rfl (CellAt.bk 0 rfl rfl)) ?_
    refine wt_read rfl rfl rfl rfl (yl_sliceLH (xs := jenc rs) (j := (jenc (rs.take j)).length + 2) (j2 := (jenc (rs.take j)).length + 2 + (at_ rs j).length) rfl rfl rfl rfl (by rw [hsp]; show ((0 : Nat) : Int) + _ + 2 = _; omega) (by rw [hsp]; show ((0 : Nat) : Int) + _ + 2 + _ = _; omega) (by omega) (by omega) hcap Try.underlying30 (by kernel_rfl) rfl) ?_
    refine wt_call rfl rfl rfl rfl (en_call rfl rfl) (clone_fn (((jenc rs).take ((jenc (rs.take j)).length + 2 + (at_ rs j).length)).drop ((jenc (rs.take j)).length + 2)) _ _ _ _ (((Rd.of_sl 4 rfl).take _).drop _ (by rw [List.length_take]; omega)) (by rw [cut_at rs j hj]; omega)) ?_
    rintro _ _ ⟨A1, c1, rfl, rfl⟩
    refine ⟨⟨[_, _], rfl⟩, ?_⟩
    rw [cut_at rs j hj]
    refine wt_eff rfl rfl rfl rfl (ef_buildSlice (e := 30) [(⟨A1, c1, at_ rs j⟩ : Mem UInt8)] rfl rfl (fun _ => by kernel_rfl) rfl rfl) ?_
    rintro _ _ ⟨T7_11, rfl, rfl⟩
    refine ⟨⟨[_, _, _], rfl⟩, ?_⟩
    refine wt_eff rfl rfl rfl rfl (ef_append (ys := [(⟨A1, c1, at_ rs j⟩ : Mem UInt8)]) 2 rfl rfl rfl rfl (Rd.of_sl 0 rfl) Try.underlying22 info30 rfl rfl (by simp only [List.length_append, List.length_cons, List.length_nil, maxLen]; omega) (by simp only [List.length_append, List.length_cons, List.length_nil]; omega)) ?_
    rintro _ _ ⟨A9, c9, rfl, hH⟩
    simp only [List.set_cons_succ, List.set_cons_zero] at hH; subst hH
    refine ⟨⟨[_, _, _], rfl⟩, ?_⟩
    refine wt_read rfl rfl rfl rfl (yl_assign rfl rfl) ?_
    refine wt_nil ?_
    refine at_keep (Keep.cons 0 rfl (Keep.cons 3 rfl (Keep.cons 5 rfl (Keep.cons 11 rfl (Keep.cons 12 rfl (Keep.cons 13 rfl (Keep.cons 14 rfl Keep.nil))))))) ?_
    refine at_inBlock ?_
    refine at_heap (fun _ hw => hw.front4.front2) ?_
    refine at_heap (fun _ hw => Holds.pcsSnoc (m := (⟨A1, c1, at_ rs j⟩ : Mem UInt8)) hw) ?_
    refine at_heap (fun _ hw => hw.front1.tail) ?_
    refine at_heap (fun _ hw => hw.front2.tail) ?_
    refine at_heap (fun _ hw => hw.front4.front4.front4.front3.front4) ?_
    refine at_region ?_
    refine wl_read rfl rfl rfl (yl_add rfl rfl rfl (w64 (by omega) (by omega))) ?_
    refine wl_read rfl rfl rfl (yl_move rfl rfl) ?_
    refine wl_nil ?_
    refine at_keep (Keep.cons 0 rfl (Keep.cons 3 rfl (Keep.cons 5 rfl (Keep.cons 11 rfl (Keep.cons 12 rfl (Keep.cons 13 rfl (Keep.cons 14 rfl Keep.nil))))))) ?_
    exact at_keep (L' := (fun (j : Nat) (A3 : Option Addr) (c3 : Nat) (out : List (Mem UInt8)) => [(0, .pointer (some ⟨g, 0, none⟩)), (3, .slice A3 out.length c3), (11, .slice A2 (spans 0 rs).length c2), (12, .int .i64 ((spans 0 rs).length : Int)), (13, .int .i64 (j : Int))]) (j + 1) A9 c9 (out ++ [(⟨A1, c1, at_ rs j⟩ : Mem UInt8)])) (Keep.consEq 0 rfl rfl (Keep.consEq 3 rfl rfl (Keep.consEq 11 rfl rfl (Keep.consEq 12 rfl rfl (Keep.consEq 13 rfl rfl Keep.nil))))) (ih (j + 1) A9 c9 (out ++ [(⟨A1, c1, at_ rs j⟩ : Mem UInt8)]) ⟨by omega, by rw [take_succ_at hj, ← hI2]; simp [recs]⟩ (by omega))
  · intro h5_0
    refine wl_nil ?_
    refine at_keep (Keep.cons 0 rfl (Keep.cons 3 rfl (Keep.cons 11 rfl (Keep.cons 12 rfl (Keep.cons 13 rfl (Keep.cons 14 rfl Keep.nil)))))) ?_
    refine at_seq ?_
    refine at_false rfl ?_
    refine at_exit rfl ?_
    refine at_seq ?_
    obtain rfl : j = rs.length := by omega
    rw [List.take_length] at hI2
    refine at_region ?_
    refine wl_read rfl rfl rfl (yl_move rfl rfl) ?_
    refine wl_read rfl rfl rfl (yl_assign rfl rfl) ?_
    refine wl_nil ?_
    refine at_keep (Keep.cons 0 rfl (Keep.cons 2 rfl (Keep.cons 3 rfl (Keep.cons 11 rfl (Keep.cons 12 rfl (Keep.cons 13 rfl (Keep.cons 14 rfl Keep.nil))))))) ?_
    refine at_retH (fun _ hw => (Jn.closes (rs := rs) (fl := fl) (hw.front1.front1.front4.front4.front4)).down2) Try.func19 (res1 rfl rfl) ?_
    exact ⟨A3, c3, out, rfl, hI2, rfl⟩
theorem rsync_fn (ws : List (Mem UInt8)) (fl g : Nat) (b : World) (H : List Asr) : Fn Try.prog 31 [.pointer (some ⟨g, 0, none⟩)] b (Rj g ws fl :: H) (fun v H' => v = .tuple #[] ∧ Rj g ws (jenc (recs ws)).length :: H = H') := by
  refine Rj.fn fun A c A2 c2 => ?_
  refine fn_of_at (by kernel_rfl) Try.func31 rfl Try.ntmps31 rfl rfl ?_
  refine at_region ?_
  refine wl_read rfl rfl rfl (yl_move rfl rfl) ?_
  refine wl_read rfl rfl rfl (yl_move rfl rfl) ?_
  refine wl_read rfl rfl rfl (yl_nilCheck rfl rfl) ?_
  refine wl_read rfl rfl rfl (yl_fieldB rfl rfl Try.underlying50 rfl (by kernel_rfl) rfl) ?_
  refine wl_read rfl rfl rfl (yl_load rfl rfl Try.underlying30 rfl (CellAt.bk 0 rfl rfl)) ?_
  refine wl_read rfl rfl rfl (yl_len rfl rfl Try.underlying30) ?_
  refine wl_read rfl rfl rfl (yl_nilCheck rfl rfl) ?_
  refine wl_read rfl rfl rfl (yl_fieldB rfl rfl Try.underlying50 rfl (by kernel_rfl) rfl) ?_
  refine wl_store rfl rfl (es_at0 (es_store 0 rfl rfl rfl rfl (by kernel_rfl) rfl rfl)) ?_
  refine wl_nil ?_
  refine at_keep (Keep.cons 0 rfl Keep.nil) ?_
  refine at_endH (fun _ hw => (Rj.closes  (hw.front2.front2.front2))) Try.func31 (res0 rfl) ?_
  exact ⟨rfl, rfl⟩
theorem rcrash_fn (ws : List (Mem UInt8)) (fl g : Nat) (b : World) (H : List Asr) (k : Int) (hk : I64 k) (hfl : fl ≤ (jenc (recs ws)).length) (hl : (jenc (recs ws)).length ≤ 100000000) : Fn Try.prog 25 [.pointer (some ⟨g, 0, none⟩), .int .i64 k] b (Rj g ws fl :: H)
    (fun v H' => ∃ A' c', v = .slice A' ((jenc (recs ws)).take (cutN (recs ws) fl k)).length c' ∧ H' = Sl A' c' 5 ((jenc (recs ws)).take (cutN (recs ws) fl k)) :: Rj g ws fl :: H) := by
  refine Rj.fn fun A c A2 c2 => Fn.know (by kernel_rfl) (p := (jenc (recs ws)).length ≤ c) (fun w hw => hw.slCap 1 rfl) (fun hcap => ?_)
  have hcn := cutN_le (recs ws) fl k hfl
  have hce := cutN_eq (recs ws) fl k
  unfold I64 at hk
  refine fn_of_at (by kernel_rfl) Try.func25 rfl Try.ntmps25 rfl rfl ?_
  refine at_seq ?_
  refine at_region ?_
  refine wl_read rfl rfl rfl (yl_assign rfl rfl) ?_
  refine wl_nil ?_
  refine at_keep (Keep.cons 0 rfl (Keep.cons 1 rfl (Keep.cons 4 rfl Keep.nil))) ?_
  refine at_seq ?_
  refine at_draw0 (.fl 0 (.fl 1 (.fl 2 (.fl 3 (.fl 4 (.fl 5 (.fl 6 (.fl 7 (.fl 8 (.fl 9 (.fl 10 (.fl 11 (.fl 12 (.fl 13 (.fl 14 (.fl 15 (.fl 16 (.fl 17 (.fl 18 .nil))))))))))))))))))) (by kernel_rfl) (by kernel_rfl) ?_
  refine wt_read rfl rfl rfl rfl (yl_move rfl rfl) ?_
  refine wt_read rfl rfl rfl rfl (yl_nilCheck rfl rfl) ?_
  refine wt_read rfl rfl rfl rfl (yl_fieldB rfl rfl Try.underlying50 rfl (by kernel_rfl) rfl) ?_
  refine wt_read rfl rfl rfl rfl (yl_load rfl rfl Try.underlying3 rfl (CellAt.bk 0 rfl rfl)) ?_
  refine wt_read rfl rfl rfl rfl (yl_move rfl rfl) ?_
  refine wt_read rfl rfl rfl rfl (yl_move rfl rfl) ?_
  refine wt_read rfl rfl rfl rfl (yl_nilCheck rfl rfl) ?_
  refine wt_read rfl rfl rfl rfl (yl_fieldB rfl rfl Try.underlying50 rfl (by kernel_rfl) rfl) ?_
  refine wt_read rfl rfl rfl rfl (yl_load rfl rfl Try.underlying30 rfl (CellAt.bk 0 rfl rfl)) ?_
  refine wt_read rfl rfl rfl rfl (yl_len rfl rfl Try.underlying30) ?_
  refine wt_read rfl rfl rfl rfl (yl_move rfl rfl) ?_
  refine wt_read rfl rfl rfl rfl (yl_nilCheck rfl rfl) ?_
  refine wt_read rfl rfl rfl rfl (yl_fieldB rfl rfl Try.underlying50 rfl (by kernel_rfl) rfl) ?_
  refine wt_read rfl rfl rfl rfl (yl_load rfl rfl Try.underlying3 rfl (CellAt.bk 0 rfl rfl)) ?_
  refine wt_read rfl rfl rfl rfl (yl_sub rfl rfl rfl (w64 (by omega) (by omega))) ?_
  refine wt_read rfl rfl rfl rfl (yl_min rfl rfl rfl) ?_
  refine wt_read rfl rfl rfl rfl (yl_max rfl rfl rfl) ?_
  refine wt_read rfl rfl rfl rfl (yl_add (r := ((cutN (recs ws) fl k : Nat) : Int)) rfl rfl rfl (by rw [hce, w64 (by omega) (by omega)])) ?_
  refine wt_read rfl rfl rfl rfl (yl_assign rfl rfl) ?_
  refine wt_nil ?_
  refine at_keep (Keep.cons 0 rfl (Keep.cons 1 rfl (Keep.cons 4 rfl (Keep.cons 5 rfl Keep.nil)))) ?_
  refine at_seq ?_
  refine at_region ?_
  refine wl_read rfl rfl rfl (yl_move rfl rfl) ?_
  refine wl_read rfl rfl rfl (yl_nilCheck rfl rfl) ?_
  refine wl_read rfl rfl rfl (yl_fieldB rfl rfl Try.underlying50 rfl (by kernel_rfl) rfl) ?_
  refine wl_read rfl rfl rfl (yl_load rfl rfl Try.underlying30 rfl (CellAt.bk 0 rfl rfl)) ?_
  refine wl_read rfl rfl rfl (yl_move rfl rfl) ?_
  refine wl_read rfl rfl rfl (yl_sliceH (xs := jenc (recs ws)) (j := cutN (recs ws) fl k) rfl rfl rfl rfl (by omega) hcap Try.underlying30 (by kernel_rfl) rfl) ?_
  refine wl_eff rfl rfl rfl (ef_append0 (ys := (jenc (recs ws)).take (cutN (recs ws) fl k)) rfl rfl rfl ((Rd.of_sl 1 rfl).take _) Try.underlying30 info5 rfl rfl (by rw [List.length_take]; simp only [maxLen]; omega) (by rw [List.length_take]; omega)) ?_
  rintro _ _ ⟨A1, c1, rfl, rfl⟩
  refine wl_read rfl rfl rfl (yl_assign rfl rfl) ?_
  refine wl_nil ?_
  refine at_keep (Keep.cons 0 rfl (Keep.cons 1 rfl (Keep.cons 4 rfl (Keep.cons 5 rfl Keep.nil)))) ?_
  refine at_retH (fun _ hw => (Rj.closes  (hw.front3.front3.front3)).front1) Try.func25 (res1 rfl rfl) ?_
  exact ⟨A1, c1, rfl, rfl⟩
theorem rappend_bad (ws : List (Mem UInt8)) (fl g : Nat) (b : World) (H : List Asr) (bs : List UInt8) (A0 : Option Addr) (c0 : Nat) (hs : ¬ okR bs) : Fn Try.prog 30 [.pointer (some ⟨g, 0, none⟩), .slice A0 bs.length c0] b (Rj g ws fl :: H) (fun v H' => v = .int .i64 1 ∧ Rj g ws fl :: H = H') := by
  unfold okR at hs
  refine fn_of_at (by kernel_rfl) Try.func30 rfl Try.ntmps30 rfl rfl ?_
  refine at_seq ?_
  refine at_region ?_
  refine wl_read rfl rfl rfl (yl_assign rfl rfl) ?_
  refine wl_nil ?_
  refine at_keep (Keep.cons 0 rfl (Keep.cons 1 rfl (Keep.cons 4 rfl Keep.nil))) ?_
  refine at_seq ?_
  refine at_seq ?_
  refine at_region ?_
  refine wl_read rfl rfl rfl (yl_move rfl rfl) ?_
  refine wl_read rfl rfl rfl (yl_len rfl rfl Try.underlying30) ?_
  refine wl_split rfl rfl rfl (yp_eql rfl rfl rfl) ?_ ?_
  · intro h1_2
    refine wl_read rfl rfl rfl (yl_move rfl rfl) ?_
    refine wl_skip rfl rfl rfl ?_
    refine wl_skip rfl rfl rfl ?_
    refine wl_skip rfl rfl rfl ?_
    refine wl_read rfl rfl rfl (yl_pickT rfl rfl rfl) ?_
    refine wl_nil ?_
    refine at_keep (Keep.cons 0 rfl (Keep.cons 1 rfl (Keep.cons 4 rfl (Keep.cons 13 rfl Keep.nil)))) ?_
    refine at_true rfl ?_
    refine at_seq ?_
    refine at_region ?_
    refine wl_read rfl rfl rfl (yl_assign rfl rfl) ?_
    refine wl_nil ?_
    refine at_keep (Keep.cons 0 rfl (Keep.cons 1 rfl (Keep.cons 4 rfl (Keep.cons 13 rfl Keep.nil)))) ?_
    refine at_ret Try.func30 (res1 rfl rfl) ?_
    exact ⟨rfl, rfl⟩
  · intro h1_2
    refine wl_read rfl rfl rfl (yl_move rfl rfl) ?_
    refine wl_read rfl rfl rfl (yl_move rfl rfl) ?_
    refine wl_read rfl rfl rfl (yl_len rfl rfl Try.underlying30) ?_
    refine wl_split rfl rfl rfl (yp_gtr rfl rfl rfl) ?_ ?_
    · intro h1_6
      refine wl_read rfl rfl rfl (yl_pickF rfl rfl rfl) ?_
      refine wl_nil ?_
      refine at_keep (Keep.cons 0 rfl (Keep.cons 1 rfl (Keep.cons 4 rfl (Keep.cons 13 rfl Keep.nil)))) ?_
      refine at_true rfl ?_
      refine at_seq ?_
      refine at_region ?_
      refine wl_read rfl rfl rfl (yl_assign rfl rfl) ?_
      refine wl_nil ?_
      refine at_keep (Keep.cons 0 rfl (Keep.cons 1 rfl (Keep.cons 4 rfl (Keep.cons 13 rfl Keep.nil)))) ?_
      refine at_ret Try.func30 (res1 rfl rfl) ?_
      exact ⟨rfl, rfl⟩
    · intro h1_6
      exact absurd (by omega) hs
theorem rappend_fn (ws : List (Mem UInt8)) (fl g : Nat) (b : World) (H : List Asr) (bs : List UInt8) (A0 : Option Addr) (c0 : Nat) (hs : okR bs) (hn : ws.length < 20000) (hl : (jenc (recs ws)).length ≤ 100000000) (hR : Rd H A0 bs) : Fn Try.prog 30 [.pointer (some ⟨g, 0, none⟩), .slice A0 bs.length c0] b (Rj g ws fl :: H)
    (fun v H' => ∃ A' c', v = .int .i64 0 ∧ H' = Sl A' c' 5 bs :: Rj g (ws ++ [⟨A', c', bs⟩]) fl :: H) := by
  unfold okR at hs
  refine Rj.fn fun A c A2 c2 => ?_
  have hcr := crc_lt bs
  have e0 : bg bs.length 2 2 = [b8 (bs.length / 256), b8 bs.length] := bg2 _
  have e4 : bg (crc bs) 4 4 = [b8 (crc bs / 16777216), b8 (crc bs / 65536), b8 (crc bs / 256), b8 (crc bs)] := bg4 _
  have e1 : (((jenc (recs ws)) ++ [b8 (bs.length / 256), b8 bs.length]) ++ bs) ++ [b8 (crc bs / 16777216), b8 (crc bs / 65536), b8 (crc bs / 256), b8 (crc bs)] = jenc (recs ws ++ [bs]) := by rw [jenc_snoc]; simp [fr, be4]
  refine fn_of_at (by kernel_rfl) Try.func30 rfl Try.ntmps30 rfl rfl ?_
  refine at_seq ?_
  refine at_region ?_
  refine wl_read rfl rfl rfl (yl_assign rfl rfl) ?_
  refine wl_nil ?_
  refine at_keep (Keep.cons 0 rfl (Keep.cons 1 rfl (Keep.cons 4 rfl Keep.nil))) ?_
  refine at_seq ?_
  refine at_seq ?_
  refine at_region ?_
  refine wl_read rfl rfl rfl (yl_move rfl rfl) ?_
  refine wl_read rfl rfl rfl (yl_len rfl rfl Try.underlying30) ?_
  refine wl_read rfl rfl rfl ((yp_eql rfl rfl rfl).2 (by omega)) ?_
  refine wl_read rfl rfl rfl (yl_move rfl rfl) ?_
  refine wl_read rfl rfl rfl (yl_move rfl rfl) ?_
  refine wl_read rfl rfl rfl (yl_len rfl rfl Try.underlying30) ?_
  refine wl_read rfl rfl rfl ((yp_gtr rfl rfl rfl).2 (by omega)) ?_
  refine wl_read rfl rfl rfl (yl_pickF rfl rfl rfl) ?_
  refine wl_nil ?_
  refine at_keep (Keep.cons 0 rfl (Keep.cons 1 rfl (Keep.cons 4 rfl (Keep.cons 13 rfl Keep.nil)))) ?_
  refine at_false rfl ?_
  refine at_skip ?_
  refine at_seq ?_
  refine at_seq ?_
  refine at_region ?_
  refine wl_read rfl rfl rfl (yl_move rfl rfl) ?_
  refine wl_read rfl rfl rfl (yl_nilCheck rfl rfl) ?_
  refine wl_read rfl rfl rfl (yl_fieldB rfl rfl Try.underlying50 rfl (by kernel_rfl) rfl) ?_
  refine wl_read rfl rfl rfl (yl_load rfl rfl Try.underlying22 rfl (CellAt.bk 0 rfl rfl)) ?_
  refine wl_read rfl rfl rfl (yl_len rfl rfl Try.underlying22) ?_
  refine wl_read rfl rfl rfl ((yp_geq rfl rfl rfl).2 (by omega)) ?_
  refine wl_nil ?_
  refine at_keep (Keep.cons 0 rfl (Keep.cons 1 rfl (Keep.cons 4 rfl (Keep.cons 13 rfl (Keep.cons 19 rfl Keep.nil))))) ?_
  refine at_false rfl ?_
  refine at_skip ?_
  refine at_seq ?_
  refine at_region ?_
  refine wl_read rfl rfl rfl (yl_move rfl rfl) ?_
  refine wl_read rfl rfl rfl (yl_nilCheck rfl rfl) ?_
  refine wl_read rfl rfl rfl (yl_fieldB rfl rfl Try.underlying50 rfl (by kernel_rfl) rfl) ?_
  refine wl_read rfl rfl rfl (yl_load rfl rfl Try.underlying30 rfl (CellAt.bk 0 rfl rfl)) ?_
  refine wl_eff rfl rfl rfl (ef_append0 (ys := jenc (recs ws)) rfl rfl rfl (Rd.of_sl 1 rfl) Try.underlying30 info5 rfl rfl (by simp only [maxLen]; omega) (by omega)) ?_
  rintro _ _ ⟨A3, c3, rfl, rfl⟩
  refine wl_read rfl rfl rfl (yl_assign rfl rfl) ?_
  refine wl_nil ?_
  refine at_keep (Keep.cons 0 rfl (Keep.cons 1 rfl (Keep.cons 4 rfl (Keep.cons 5 rfl (Keep.cons 13 rfl (Keep.cons 19 rfl Keep.nil)))))) ?_
  refine at_seq ?_
  refine at_region ?_
  refine wl_read rfl rfl rfl (yl_move rfl rfl) ?_
  refine wl_read rfl rfl rfl (yl_move rfl rfl) ?_
  refine wl_read rfl rfl rfl (yl_len rfl rfl Try.underlying30) ?_
  refine wl_call rfl rfl rfl (en_call rfl rfl) (big_fn bs.length 2 _ _ (by decide) (by omega)) ?_
  rintro _ _ ⟨A4, c4, rfl, rfl⟩
  rw [e0]
  refine wl_eff rfl rfl rfl (ef_append (ys := [b8 (bs.length / 256), b8 bs.length]) 1 rfl rfl rfl rfl (Rd.of_sl 0 rfl) Try.underlying30 info5 rfl rfl (by simp only [List.length_append, List.length_cons, List.length_nil, maxLen]; omega) (by simp only [List.length_append, List.length_cons, List.length_nil]; omega)) ?_
  rintro _ _ ⟨A5, c5, rfl, hH⟩
  simp only [List.set_cons_succ, List.set_cons_zero] at hH; subst hH
  refine wl_read rfl rfl rfl (yl_assign rfl rfl) ?_
  refine wl_nil ?_
  refine at_keep (Keep.cons 0 rfl (Keep.cons 1 rfl (Keep.cons 4 rfl (Keep.cons 5 rfl (Keep.cons 13 rfl (Keep.cons 19 rfl Keep.nil)))))) ?_
  refine at_seq ?_
  refine at_region ?_
  refine wl_read rfl rfl rfl (yl_move rfl rfl) ?_
  refine wl_read rfl rfl rfl (yl_move rfl rfl) ?_
  refine wl_eff rfl rfl rfl (ef_append (ys := bs) 1 rfl rfl rfl rfl (((((hR.cons _).cons _).cons _).cons _).cons _) Try.underlying30 info5 rfl rfl (by simp only [List.length_append, List.length_cons, List.length_nil, maxLen]; omega) (by simp only [List.length_append, List.length_cons, List.length_nil]; omega)) ?_
  rintro _ _ ⟨A6, c6, rfl, hH⟩
  simp only [List.set_cons_succ, List.set_cons_zero] at hH; subst hH
  refine wl_read rfl rfl rfl (yl_assign rfl rfl) ?_
  refine wl_nil ?_
  refine at_keep (Keep.cons 0 rfl (Keep.cons 1 rfl (Keep.cons 4 rfl (Keep.cons 5 rfl (Keep.cons 13 rfl (Keep.cons 19 rfl Keep.nil)))))) ?_
  refine at_seq ?_
  refine at_region ?_
  refine wl_read rfl rfl rfl (yl_move rfl rfl) ?_
  refine wl_read rfl rfl rfl (yl_move rfl rfl) ?_
  refine wl_read rfl rfl rfl (yl_move rfl rfl) ?_
  refine wl_call rfl rfl rfl (en_call rfl rfl) (rsum_fn bs A0 c0 _ _ (((((hR.cons _).cons _).cons _).cons _).cons _) (by omega)) ?_
  rintro _ _ ⟨rfl, rfl⟩
  refine wl_read rfl rfl rfl (yl_conv rfl rfl rfl Try.underlying3 (w64 (by omega) (by omega))) ?_
  refine wl_call rfl rfl rfl (en_call rfl rfl) (big_fn (crc bs) 4 _ _ (by decide) hcr) ?_
  rintro _ _ ⟨A7, c7, rfl, rfl⟩
  rw [e4]
  refine wl_eff rfl rfl rfl (ef_append (ys := [b8 (crc bs / 16777216), b8 (crc bs / 65536), b8 (crc bs / 256), b8 (crc bs)]) 2 rfl rfl rfl rfl (Rd.of_sl 0 rfl) Try.underlying30 info5 rfl rfl (by simp only [List.length_append, List.length_cons, List.length_nil, maxLen]; omega) (by simp only [List.length_append, List.length_cons, List.length_nil]; omega)) ?_
  rintro _ _ ⟨A8, c8, rfl, hH⟩
  simp only [List.set_cons_succ, List.set_cons_zero] at hH; subst hH
  rw [e1]
  refine wl_read rfl rfl rfl (yl_nilCheck rfl rfl) ?_
  refine wl_read rfl rfl rfl (yl_fieldB rfl rfl Try.underlying50 rfl (by kernel_rfl) rfl) ?_
  refine wl_store rfl rfl (es_at3 (es_store 3 rfl rfl rfl rfl (by kernel_rfl) rfl rfl)) ?_
  refine wl_nil ?_
  refine at_keep (Keep.cons 0 rfl (Keep.cons 1 rfl (Keep.cons 4 rfl (Keep.cons 5 rfl (Keep.cons 13 rfl (Keep.cons 19 rfl Keep.nil)))))) ?_
  refine at_seq ?_
  refine at_region ?_
  refine wl_read rfl rfl rfl (yl_move rfl rfl) ?_
  refine wl_read rfl rfl rfl (yl_move rfl rfl) ?_
  refine wl_read rfl rfl rfl (yl_nilCheck rfl rfl) ?_
  refine wl_read rfl rfl rfl (yl_fieldB rfl rfl Try.underlying50 rfl (by kernel_rfl) rfl) ?_
  refine wl_read rfl rfl rfl (yl_load rfl rfl Try.underlying22 rfl (CellAt.bk 3 rfl rfl)) ?_
  refine wl_eff rfl rfl rfl (ef_append0 (ys := ws) rfl rfl rfl (Rd.of_sl 5 rfl) Try.underlying22 info30 rfl rfl (by simp only [maxLen]; omega) (by omega)) ?_
  rintro _ _ ⟨B1, d1, rfl, rfl⟩
  refine wl_read rfl rfl rfl (yl_move rfl rfl) ?_
  refine wl_eff rfl rfl rfl (ef_append0 (ys := bs) rfl rfl rfl (((((((hR.cons _).cons _).cons _).cons _).cons _).cons _).cons _) Try.underlying30 info5 rfl rfl (by simp only [maxLen]; omega) (by omega)) ?_
  rintro _ _ ⟨A9, c9, rfl, rfl⟩
  refine wl_eff rfl rfl rfl (ef_buildSlice (e := 30) [(⟨A9, c9, bs⟩ : Mem UInt8)] rfl rfl (fun _ => by kernel_rfl) rfl rfl) ?_
  rintro _ _ ⟨T9_8, rfl, rfl⟩
  refine wl_eff rfl rfl rfl (ef_append (ys := [(⟨A9, c9, bs⟩ : Mem UInt8)]) 2 rfl rfl rfl rfl (Rd.of_sl 0 rfl) Try.underlying22 info30 rfl rfl (by simp only [List.length_append, List.length_cons, List.length_nil, maxLen]; omega) (by simp only [List.length_append, List.length_cons, List.length_nil]; omega)) ?_
  rintro _ _ ⟨B2, d2, rfl, hH⟩
  simp only [List.set_cons_succ, List.set_cons_zero] at hH; subst hH
  refine wl_read rfl rfl rfl (yl_nilCheck rfl rfl) ?_
  refine wl_read rfl rfl rfl (yl_fieldB rfl rfl Try.underlying50 rfl (by kernel_rfl) rfl) ?_
  refine wl_store rfl rfl (es_at6 (es_store 6 rfl rfl rfl rfl (by kernel_rfl) rfl rfl)) ?_
  refine wl_nil ?_
  refine at_keep (Keep.cons 0 rfl (Keep.cons 1 rfl (Keep.cons 4 rfl (Keep.cons 5 rfl (Keep.cons 13 rfl (Keep.cons 19 rfl Keep.nil)))))) ?_
  refine at_seq ?_
  have e5 : jenc (recs ws ++ [bs]) = jenc (recs (ws ++ [(⟨A9, c9, bs⟩ : Mem UInt8)])) := by simp [recs]
  rw [e5]
  refine at_region ?_
  refine wl_read rfl rfl rfl (yl_assign rfl rfl) ?_
  refine wl_nil ?_
  refine at_keep (Keep.cons 0 rfl (Keep.cons 1 rfl (Keep.cons 4 rfl (Keep.cons 5 rfl (Keep.cons 13 rfl (Keep.cons 19 rfl Keep.nil)))))) ?_
  refine at_retH (fun _ hw => (Rj.closes (ws := ws ++ [(⟨A9, c9, bs⟩ : Mem UInt8)]) (fl := fl) (hw.front1.front2.front5.front6.drop4.drop4.drop4.drop4.drop4)).front1) Try.func30 (res1 rfl rfl) ?_
  exact ⟨A9, c9, rfl, rfl⟩
end Go.Proofs.Yteecjaiklpkhaaa

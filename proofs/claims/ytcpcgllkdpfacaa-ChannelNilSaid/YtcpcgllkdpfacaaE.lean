/- Walks of same and awake. -/
import Derived.Test.YtcpcgllkdpfacaaD
import Derived.Test.YtcpcgllkdpfacaaK9
namespace Go.Proofs.Ytcpcgllkdpfacaa
open Go

theorem same_fn (s : Sc) (n : Nat) (g r : Nat) (b : World) (H : List Asr) (hs : SOk s n) (hn : n ≤ 400) : Fn Try.prog 19 [.pointer (some ⟨g, 0, none⟩), .pointer (some ⟨r, 0, none⟩)] b (Chn 58 g s.p s.k :: Chn 42 r s.q s.k :: Pool s.pl :: H)
    (fun v H' => v = .bool true ∧ Chn 58 g s.p s.k :: Chn 42 r s.q s.k :: Pool s.pl :: H = H') := by
  have hlen := hs.len
  have hlq := hs.lenq
  refine Fn.open_ (ι := (Option Addr × Nat) × (Option Addr × Nat)) (Hi := fun x => chB 58 g x.1.1 x.1.2 s.p s.k :: Sl x.1.1 x.1.2 33 s.p :: chB 42 r x.2.1 x.2.2 s.q s.k :: Sl x.2.1 x.2.2 33 s.q :: Pool s.pl :: H) ((none, 0), (none, 0)) (fun w hw => ?_) (fun x => ?_)
  · obtain ⟨x, hx⟩ := Chn.opens hw
    obtain ⟨y, hy⟩ := Chn.opens hx.front2
    exact ⟨(x, y), hy.front3.front3⟩
  obtain ⟨⟨A, c⟩, ⟨A2, c2⟩⟩ := x
  refine fn_of_at (by kernel_rfl) Try.func19 rfl Try.ntmps19 rfl rfl ?_
  refine at_seq ?_
  refine at_region ?_
  refine wl_read rfl rfl rfl (yl_assign rfl rfl) ?_
  refine wl_nil ?_
  refine at_keep (Keep.cons 0 rfl (Keep.cons 1 rfl (Keep.cons 4 rfl Keep.nil))) ?_
  refine at_seq ?_
  refine at_seq ?_
  refine at_draw0 (.fl 0 (.fl 2 (.fl 3 (.fl 4 (.fl 5 (.fl 6 (.ef 1 (.fl 7 .nil)))))))) (by kernel_rfl) (by kernel_rfl) ?_
  refine wt_read rfl rfl rfl rfl (yl_move rfl rfl) ?_
  refine wt_read rfl rfl rfl rfl (yl_move rfl rfl) ?_
  refine wt_read rfl rfl rfl rfl (yl_nilCheck rfl rfl) ?_
  refine wt_read rfl rfl rfl rfl (yl_fieldB rfl rfl Try.underlying42 rfl (by kernel_rfl) rfl) ?_
  refine wt_read rfl rfl rfl rfl (yl_load rfl rfl Try.underlying40 rfl (CellAt.bk 2 rfl rfl)) ?_
  refine wt_read rfl rfl rfl rfl (yl_len rfl rfl Try.underlying40) ?_
  refine wt_call rfl rfl rfl rfl (en_call rfl rfl) (len_at g _ _ (CellAt.bk 0 rfl rfl)) ?_
  rintro _ _ ⟨rfl, rfl⟩
  refine ⟨⟨[], rfl⟩, ?_⟩
  refine wt_read rfl rfl rfl rfl ((yp_neq rfl rfl rfl).2 (by omega)) ?_
  refine wt_nil ?_
  refine at_keep (Keep.cons 0 rfl (Keep.cons 1 rfl (Keep.cons 4 rfl (Keep.cons 19 rfl Keep.nil)))) ?_
  refine at_false rfl ?_
  refine at_skip ?_
  refine at_seq ?_
  refine at_seq ?_
  refine at_region ?_
  refine wl_read rfl rfl rfl (yl_assign rfl rfl) ?_
  refine wl_nil ?_
  refine at_keep (Keep.cons 0 rfl (Keep.cons 1 rfl (Keep.cons 4 rfl (Keep.cons 5 rfl (Keep.cons 19 rfl Keep.nil))))) ?_
  refine at_block ?_
  refine at_keep (L' := (fun (j : Nat) => [(0, .pointer (some ⟨g, 0, none⟩)), (1, .pointer (some ⟨r, 0, none⟩)), (5, .int .i64 (j : Int))]) 0) (Keep.consEq 0 rfl rfl (Keep.consEq 1 rfl rfl (Keep.consEq 5 rfl rfl Keep.nil))) ?_
  refine at_loop1 (fun (j : Nat) => True) (fun (j : Nat) => [(0, .pointer (some ⟨g, 0, none⟩)), (1, .pointer (some ⟨r, 0, none⟩)), (5, .int .i64 (j : Int))]) (fun (j : Nat) => chB 58 g A c s.p s.k :: Sl A c 33 s.p :: chB 42 r A2 c2 s.q s.k :: Sl A2 c2 33 s.q :: Pool s.pl :: H) (fun (j : Nat) => s.q.length - j) 0 trivial ?_
  intro j hI ih
  refine at_seq ?_
  refine at_seq ?_
  refine at_region ?_
  refine wl_read rfl rfl rfl (yl_move rfl rfl) ?_
  refine wl_read rfl rfl rfl (yl_move rfl rfl) ?_
  refine wl_read rfl rfl rfl (yl_nilCheck rfl rfl) ?_
  refine wl_read rfl rfl rfl (yl_fieldB rfl rfl Try.underlying42 rfl (by kernel_rfl) rfl) ?_
  refine wl_read rfl rfl rfl (yl_load rfl rfl Try.underlying40 rfl (CellAt.bk 2 rfl rfl)) ?_
  refine wl_read rfl rfl rfl (yl_len rfl rfl Try.underlying40) ?_
  refine wl_split rfl rfl rfl (yp_lss rfl rfl rfl) ?_ ?_
  · intro h4_6
    refine wl_nil ?_
    refine at_keep (Keep.cons 0 rfl (Keep.cons 1 rfl (Keep.cons 5 rfl (Keep.cons 26 rfl Keep.nil)))) ?_
    refine at_true rfl ?_
    refine at_skip ?_
    refine at_seq ?_
    refine at_block ?_
    refine at_seq ?_
    have hkq : j < s.q.length := by omega
    have hkp : j < s.p.length := by omega
    refine at_region ?_
    refine wl_read rfl rfl rfl (yl_move rfl rfl) ?_
    refine wl_read rfl rfl rfl (yl_move rfl rfl) ?_
    refine wl_call rfl rfl rfl (en_call rfl rfl) (at_at s.p g j _ _ (CellAt.bk 0 rfl rfl) (Rd.of_sl 1 rfl) (okP hs (by omega) 4 rfl) hkp) ?_
    rintro _ _ ⟨A1, c1, rfl, rfl⟩
    refine wl_read rfl rfl rfl (yl_move rfl rfl) ?_
    refine wl_read rfl rfl rfl (yl_extract rfl rfl rfl) ?_
    refine wl_read rfl rfl rfl (yl_extract rfl rfl rfl) ?_
    refine wl_eff rfl rfl rfl (ef_alloc (cs := [.int .i64 0, .int .i64 0, .slice none 0 0]) (z := .agg #[.int .i64 0, .int .i64 0, .slice none 0 0]) rfl (by kernel_rfl) rfl) ?_
    rintro _ _ ⟨g6, rfl, rfl⟩
    refine wl_store rfl rfl (es_at0 (es_storeN 0 rfl rfl rfl rfl (by kernel_rfl) rfl rfl)) ?_
    refine wl_read rfl rfl rfl (yl_assign rfl rfl) ?_
    refine wl_nil ?_
    refine at_keep (Keep.cons 0 rfl (Keep.cons 1 rfl (Keep.cons 5 rfl (Keep.cons 6 rfl (Keep.cons 7 rfl (Keep.cons 26 rfl Keep.nil)))))) ?_
    refine at_seq ?_
    refine at_draw0 (.fl 0 (.fl 1 (.fl 2 (.fl 3 (.fl 4 (.fl 5 (.fl 6 (.fl 7 (.fl 8 (.fl 9 (.fl 10 (.ef 11 (.fl 12 (.fl 13 .nil)))))))))))))) (by kernel_rfl) (by kernel_rfl) ?_
    refine wt_read rfl rfl rfl rfl (yl_move rfl rfl) ?_
    refine wt_read rfl rfl rfl rfl (yl_notT rfl rfl) ?_
    refine wt_read rfl rfl rfl rfl (yl_move rfl rfl) ?_
    refine wt_read rfl rfl rfl rfl (yl_loadBk 0 rfl rfl rfl Try.underlying33 rfl (by kernel_rfl)) ?_
    refine wt_read rfl rfl rfl rfl (yl_move rfl rfl) ?_
    refine wt_read rfl rfl rfl rfl (yl_nilCheck rfl rfl) ?_
    refine wt_read rfl rfl rfl rfl (yl_fieldB rfl rfl Try.underlying42 rfl (by kernel_rfl) rfl) ?_
    refine wt_read rfl rfl rfl rfl (yl_load rfl rfl Try.underlying40 rfl (CellAt.bk 4 rfl rfl)) ?_
    refine wt_read rfl rfl rfl rfl (yl_move rfl rfl) ?_
    refine wt_read rfl rfl rfl rfl (yl_index rfl rfl rfl (Rd.of_sl 5 rfl) (at_some hkq) rfl rfl Try.underlying40 (by kernel_rfl) rfl) ?_
    refine wt_read rfl rfl rfl rfl (yl_loadRow rfl rfl (Rd.of_sl 5 rfl) (at_some hkq) Try.underlying33 rfl (by kernel_rfl) rfl) ?_
    refine wt_call rfl rfl rfl rfl (en_call rfl rfl) (message_fn ((at_ s.p j).cp A1 c1) (at_ s.q j) _ _ (Rd.of_sl (xs := (at_ s.p j).bs) 1 rfl) (Rd.pool (m := (at_ s.q j).mem) 6 rfl (hs.inq _ (at_in hkq)))) ?_
    rintro _ _ ⟨rfl, rfl⟩
    refine ⟨⟨[], rfl⟩, ?_⟩
    have heq : ((at_ s.p j).cp A1 c1).abs = (at_ s.q j).abs := hs.at_ j hkp
    rw [decide_eq_true heq]
    refine wt_read rfl rfl rfl rfl (yl_notT rfl rfl) ?_
    refine wt_read rfl rfl rfl rfl (yl_pickF rfl rfl rfl) ?_
    refine wt_nil ?_
    refine at_keep (Keep.cons 0 rfl (Keep.cons 1 rfl (Keep.cons 5 rfl (Keep.cons 6 rfl (Keep.cons 7 rfl (Keep.cons 26 rfl (Keep.cons 48 rfl Keep.nil))))))) ?_
    refine at_false rfl ?_
    refine at_skip ?_
    refine at_inBlock ?_
    refine at_heap (fun _ hw => hw.tail) ?_
    refine at_heap (fun _ hw => hw.tail) ?_
    refine at_heap (fun _ hw => hw.front4.front4.front4.front4.front4) ?_
    refine at_region ?_
    refine wl_read rfl rfl rfl (yl_move rfl rfl) ?_
    refine wl_read rfl rfl rfl (yl_add rfl rfl rfl (w64 (by omega) (by omega))) ?_
    refine wl_read rfl rfl rfl (yl_assign rfl rfl) ?_
    refine wl_nil ?_
    refine at_keep (Keep.cons 0 rfl (Keep.cons 1 rfl (Keep.cons 5 rfl (Keep.cons 6 rfl (Keep.cons 7 rfl (Keep.cons 26 rfl (Keep.cons 48 rfl Keep.nil))))))) ?_
    exact at_keep (L' := (fun (j : Nat) => [(0, .pointer (some ⟨g, 0, none⟩)), (1, .pointer (some ⟨r, 0, none⟩)), (5, .int .i64 (j : Int))]) (j + 1)) (Keep.consEq 0 rfl rfl (Keep.consEq 1 rfl rfl (Keep.consEq 5 rfl rfl Keep.nil))) (ih (j + 1) trivial (by omega))
  · intro h4_6
    refine wl_nil ?_
    refine at_keep (Keep.cons 0 rfl (Keep.cons 1 rfl (Keep.cons 5 rfl (Keep.cons 26 rfl Keep.nil)))) ?_
    refine at_false rfl ?_
    refine at_exit rfl ?_
    refine at_seq ?_
    refine at_heap (fun _ hw => hw.front4.front4.front4.front4.front4) ?_
    refine at_heap (fun _ hw => (Chn.closes (ms := s.q) (k := s.k) (Chn.closes (ms := s.p) (k := s.k) hw).down2).front1) ?_
    refine at_region ?_
    refine wl_read rfl rfl rfl (yl_move rfl rfl) ?_
    refine wl_call rfl rfl rfl (en_call rfl rfl) (counts_fn s.p s.k g _ _) ?_
    rintro _ _ ⟨rfl, rfl⟩
    refine wl_read rfl rfl rfl (yl_move rfl rfl) ?_
    refine wl_read rfl rfl rfl (yl_extract rfl rfl rfl) ?_
    refine wl_read rfl rfl rfl (yl_extract rfl rfl rfl) ?_
    refine wl_read rfl rfl rfl (yl_extract rfl rfl rfl) ?_
    refine wl_read rfl rfl rfl (yl_extract rfl rfl rfl) ?_
    refine wl_read rfl rfl rfl (yl_assign rfl rfl) ?_
    refine wl_read rfl rfl rfl (yl_assign rfl rfl) ?_
    refine wl_read rfl rfl rfl (yl_assign rfl rfl) ?_
    refine wl_read rfl rfl rfl (yl_assign rfl rfl) ?_
    refine wl_nil ?_
    refine at_keep (Keep.cons 0 rfl (Keep.cons 1 rfl (Keep.cons 5 rfl (Keep.cons 8 rfl (Keep.cons 9 rfl (Keep.cons 10 rfl (Keep.cons 11 rfl (Keep.cons 26 rfl Keep.nil)))))))) ?_
    refine at_seq ?_
    refine at_heap (fun _ hw => hw.front1) ?_
    refine at_open (fun _ hw => Chn.opens hw) (fun x => ?_)
    obtain ⟨A9, c9⟩ := x
    refine at_region ?_
    refine wl_read rfl rfl rfl (yl_move rfl rfl) ?_
    refine wl_read rfl rfl rfl (yl_move rfl rfl) ?_
    refine wl_read rfl rfl rfl (yl_nilCheck rfl rfl) ?_
    refine wl_read rfl rfl rfl (yl_fieldB rfl rfl Try.underlying42 rfl (by kernel_rfl) rfl) ?_
    refine wl_read rfl rfl rfl (yl_load rfl rfl Try.underlying3 rfl (CellAt.bk 0 rfl rfl)) ?_
    refine wl_read rfl rfl rfl ((yp_eql rfl rfl rfl).1 rfl) ?_
    refine wl_read rfl rfl rfl (yl_move rfl rfl) ?_
    refine wl_read rfl rfl rfl (yl_move rfl rfl) ?_
    refine wl_read rfl rfl rfl (yl_move rfl rfl) ?_
    refine wl_read rfl rfl rfl (yl_nilCheck rfl rfl) ?_
    refine wl_read rfl rfl rfl (yl_fieldB rfl rfl Try.underlying42 rfl (by kernel_rfl) rfl) ?_
    refine wl_read rfl rfl rfl (yl_load rfl rfl Try.underlying3 rfl (CellAt.bk 0 rfl rfl)) ?_
    refine wl_read rfl rfl rfl ((yp_eql rfl rfl rfl).1 rfl) ?_
    refine wl_read rfl rfl rfl (yl_pickT rfl rfl rfl) ?_
    refine wl_read rfl rfl rfl (yl_move rfl rfl) ?_
    refine wl_read rfl rfl rfl (yl_move rfl rfl) ?_
    refine wl_read rfl rfl rfl (yl_move rfl rfl) ?_
    refine wl_read rfl rfl rfl (yl_nilCheck rfl rfl) ?_
    refine wl_read rfl rfl rfl (yl_fieldB rfl rfl Try.underlying42 rfl (by kernel_rfl) rfl) ?_
    refine wl_read rfl rfl rfl (yl_load rfl rfl Try.underlying3 rfl (CellAt.bk 0 rfl rfl)) ?_
    refine wl_read rfl rfl rfl ((yp_eql rfl rfl rfl).1 rfl) ?_
    refine wl_read rfl rfl rfl (yl_pickT rfl rfl rfl) ?_
    refine wl_read rfl rfl rfl (yl_move rfl rfl) ?_
    refine wl_read rfl rfl rfl (yl_move rfl rfl) ?_
    refine wl_read rfl rfl rfl (yl_move rfl rfl) ?_
    refine wl_read rfl rfl rfl (yl_nilCheck rfl rfl) ?_
    refine wl_read rfl rfl rfl (yl_fieldB rfl rfl Try.underlying42 rfl (by kernel_rfl) rfl) ?_
    refine wl_read rfl rfl rfl (yl_load rfl rfl Try.underlying3 rfl (CellAt.bk 0 rfl rfl)) ?_
    refine wl_read rfl rfl rfl ((yp_eql rfl rfl rfl).1 rfl) ?_
    refine wl_read rfl rfl rfl (yl_pickT rfl rfl rfl) ?_
    refine wl_read rfl rfl rfl (yl_assign rfl rfl) ?_
    refine wl_nil ?_
    refine at_keep (Keep.cons 0 rfl (Keep.cons 1 rfl (Keep.cons 4 rfl (Keep.cons 5 rfl (Keep.cons 8 rfl (Keep.cons 9 rfl (Keep.cons 10 rfl (Keep.cons 11 rfl (Keep.cons 26 rfl Keep.nil))))))))) ?_
    refine at_retH (fun _ hw => (Chn.closes (ms := s.q) (k := s.k) hw.front3.front3.front3.front3).front1) Try.func19 (res1 rfl rfl) ?_
    exact ⟨rfl, rfl⟩
theorem awake_fn (b : World) (H : List Asr) : Fn Try.prog 14 [] b H (fun v H' => v = .bool true ∧ H = H') := by
  have o1 : okS 0 1 [97] := by decide
  have o2 : okS 1 0 [98] := by decide
  have o3 : okS 0 1 [99] := by decide
  refine fn_of_at (by kernel_rfl) Try.func14 rfl Try.ntmps14 rfl rfl ?_
  refine at_seq ?_
  refine at_region ?_
  refine wl_read rfl rfl rfl (yl_assign rfl rfl) ?_
  refine wl_nil ?_
  refine at_keep (Keep.cons 0 rfl Keep.nil) ?_
  refine at_seq ?_
  refine at_region ?_
  refine wl_call rfl rfl rfl (en_call rfl rfl) (new_fn _ _) ?_
  rintro _ _ ⟨g, rfl, rfl⟩
  refine wl_read rfl rfl rfl (yl_assign rfl rfl) ?_
  refine wl_nil ?_
  refine at_keep (Keep.cons 0 rfl (Keep.cons 1 rfl Keep.nil)) ?_
  refine at_seq ?_
  refine at_region ?_
  refine wl_read rfl rfl rfl (yl_move rfl rfl) ?_
  refine wl_eff rfl rfl rfl (ef_buildSlice (e := 5) ([97] : List UInt8) rfl rfl (fun _ => by kernel_rfl) rfl rfl) ?_
  rintro _ _ ⟨T2_1, rfl, rfl⟩
  refine wl_eff rfl rfl rfl (ef_litBytes 0 rfl rfl rfl (by decide) Try.underlying27 Try.underlying5) ?_
  rintro _ _ ⟨rfl, hH⟩
  simp only [List.set_cons_succ, List.set_cons_zero] at hH; subst hH
  refine wl_heap (fun _ hw => hw.front1) ?_
  refine wl_call rfl rfl rfl (en_call rfl rfl) (send_fn ([] : List Msg) (⟨0, 0, 0, 0⟩ : Cts) g _ _ 0 1 ([97] : List UInt8) _ _ o1 (by simp) (by decide) (Rd.pool (m := ⟨T2_1, 1, ([97] : List UInt8)⟩) 0 rfl (by simp))) ?_
  rintro _ _ ⟨A1, c1, rfl, rfl⟩
  refine wl_read rfl rfl rfl (yl_move rfl rfl) ?_
  refine wl_eff rfl rfl rfl (ef_buildSlice (e := 5) ([98] : List UInt8) rfl rfl (fun _ => by kernel_rfl) rfl rfl) ?_
  rintro _ _ ⟨T2_5, rfl, rfl⟩
  refine wl_eff rfl rfl rfl (ef_litBytes 0 rfl rfl rfl (by decide) Try.underlying27 Try.underlying5) ?_
  rintro _ _ ⟨rfl, hH⟩
  simp only [List.set_cons_succ, List.set_cons_zero] at hH; subst hH
  refine wl_heap (fun _ hw => hw.front2) ?_
  refine wl_call rfl rfl rfl (en_call rfl rfl) (send_fn ([⟨0, 1, A1, c1, [97]⟩] : List Msg) (⟨1, 0, 0, 0⟩ : Cts) g _ _ 1 0 ([98] : List UInt8) _ _ o2 (by simp) (by decide) (Rd.pool (m := ⟨T2_5, 1, ([98] : List UInt8)⟩) 0 rfl (by simp))) ?_
  rintro _ _ ⟨A2, c2, rfl, rfl⟩
  refine wl_read rfl rfl rfl (yl_move rfl rfl) ?_
  refine wl_eff rfl rfl rfl (ef_buildSlice (e := 5) ([99] : List UInt8) rfl rfl (fun _ => by kernel_rfl) rfl rfl) ?_
  rintro _ _ ⟨T2_9, rfl, rfl⟩
  refine wl_eff rfl rfl rfl (ef_litBytes 0 rfl rfl rfl (by decide) Try.underlying27 Try.underlying5) ?_
  rintro _ _ ⟨rfl, hH⟩
  simp only [List.set_cons_succ, List.set_cons_zero] at hH; subst hH
  refine wl_heap (fun _ hw => hw.front2) ?_
  refine wl_call rfl rfl rfl (en_call rfl rfl) (send_fn ([⟨0, 1, A1, c1, [97]⟩, ⟨1, 0, A2, c2, [98]⟩] : List Msg) (⟨2, 0, 0, 0⟩ : Cts) g _ _ 0 1 ([99] : List UInt8) _ _ o3 (by simp) (by decide) (Rd.pool (m := ⟨T2_9, 1, ([99] : List UInt8)⟩) 0 rfl (by simp))) ?_
  rintro _ _ ⟨A3, c3, rfl, rfl⟩
  refine wl_read rfl rfl rfl (yl_assign rfl rfl) ?_
  refine wl_read rfl rfl rfl (yl_assign rfl rfl) ?_
  refine wl_read rfl rfl rfl (yl_assign rfl rfl) ?_
  refine wl_nil ?_
  refine at_keep (Keep.cons 0 rfl (Keep.cons 1 rfl (Keep.cons 2 rfl (Keep.cons 3 rfl (Keep.cons 4 rfl Keep.nil))))) ?_
  refine at_seq ?_
  refine at_region ?_
  refine wl_read rfl rfl rfl (yl_move rfl rfl) ?_
  refine wl_heap (fun _ hw => hw.front1) ?_
  refine wl_call rfl rfl rfl (en_call rfl rfl) (deliver_fn ([⟨0, 1, A1, c1, [97]⟩, ⟨1, 0, A2, c2, [98]⟩, ⟨0, 1, A3, c3, [99]⟩] : List Msg) (⟨3, 0, 0, 0⟩ : Cts) g _ _ 1 (⟨by simp, fun m hm => by
      simp only [List.mem_cons, List.not_mem_nil, or_false] at hm
      rcases hm with rfl | rfl | rfl
      · exact Rd.of_sl (xs := ([97] : List UInt8)) 4 rfl
      · exact Rd.of_sl (xs := ([98] : List UInt8)) 2 rfl
      · exact Rd.of_sl (xs := ([99] : List UInt8)) 0 rfl, fun m hm => by
      simp only [List.mem_cons, List.not_mem_nil, or_false] at hm
      rcases hm with rfl | rfl | rfl <;> exact (by decide : (1 : Nat) ≤ 1000)⟩) (by simp) (by decide)) ?_
  rintro _ _ ⟨A5, c5, rfl, rfl⟩
  refine wl_read rfl rfl rfl (yl_move rfl rfl) ?_
  refine wl_read rfl rfl rfl (yl_extract rfl rfl rfl) ?_
  refine wl_read rfl rfl rfl (yl_extract rfl rfl rfl) ?_
  refine wl_eff rfl rfl rfl (ef_alloc (cs := [.int .i64 0, .int .i64 0, .slice none 0 0]) (z := .agg #[.int .i64 0, .int .i64 0, .slice none 0 0]) rfl (by kernel_rfl) rfl) ?_
  rintro _ _ ⟨g5, rfl, rfl⟩
  refine wl_store rfl rfl (es_at0 (es_storeN 0 rfl rfl rfl rfl (by kernel_rfl) rfl rfl)) ?_
  refine wl_read rfl rfl rfl (yl_assign rfl rfl) ?_
  refine wl_nil ?_
  refine at_keep (Keep.cons 0 rfl (Keep.cons 1 rfl (Keep.cons 2 rfl (Keep.cons 3 rfl (Keep.cons 4 rfl (Keep.cons 5 rfl (Keep.cons 6 rfl Keep.nil))))))) ?_
  refine at_seq ?_
  refine at_heap (fun _ hw => hw.front2) ?_
  refine at_open (fun _ hw => Chn.opens hw) (fun x => ?_)
  obtain ⟨A9, c9⟩ := x
  refine at_region ?_
  refine wl_read rfl rfl rfl (yl_move rfl rfl) ?_
  refine wl_call rfl rfl rfl (en_call rfl rfl) (at_at ([⟨0, 1, A1, c1, [97]⟩, ⟨0, 1, A3, c3, [99]⟩] : List Msg) g 1 _ _ (CellAt.bk 0 rfl rfl) (Rd.of_sl 1 rfl) ((⟨by simp, fun m hm => by
      simp only [List.mem_cons, List.not_mem_nil, or_false] at hm
      rcases hm with rfl | rfl
      · exact Rd.of_sl (xs := ([97] : List UInt8)) 8 rfl
      · exact Rd.of_sl (xs := ([99] : List UInt8)) 4 rfl, fun m hm => by
      simp only [List.mem_cons, List.not_mem_nil, or_false] at hm
      rcases hm with rfl | rfl <;> exact (by decide : (1 : Nat) ≤ 1000)⟩)) (by simp)) ?_
  rintro _ _ ⟨A6, c6, rfl, rfl⟩
  refine wl_read rfl rfl rfl (yl_move rfl rfl) ?_
  refine wl_read rfl rfl rfl (yl_extract rfl rfl rfl) ?_
  refine wl_read rfl rfl rfl (yl_extract rfl rfl rfl) ?_
  refine wl_eff rfl rfl rfl (ef_alloc (cs := [.int .i64 0, .int .i64 0, .slice none 0 0]) (z := .agg #[.int .i64 0, .int .i64 0, .slice none 0 0]) rfl (by kernel_rfl) rfl) ?_
  rintro _ _ ⟨g7, rfl, rfl⟩
  refine wl_store rfl rfl (es_at0 (es_storeN 0 rfl rfl rfl rfl (by kernel_rfl) rfl rfl)) ?_
  refine wl_read rfl rfl rfl (yl_assign rfl rfl) ?_
  refine wl_nil ?_
  refine at_keep (Keep.cons 0 rfl (Keep.cons 1 rfl (Keep.cons 2 rfl (Keep.cons 3 rfl (Keep.cons 4 rfl (Keep.cons 5 rfl (Keep.cons 6 rfl (Keep.cons 7 rfl (Keep.cons 8 rfl Keep.nil))))))))) ?_
  refine at_seq ?_
  refine at_heap (fun _ hw => hw.front3.front3) ?_
  refine at_heap (fun _ hw => Chn.closes (ms := ([⟨0, 1, A1, c1, [97]⟩, ⟨0, 1, A3, c3, [99]⟩] : List Msg)) (k := (⟨3, 1, 0, 0⟩ : Cts)) hw) ?_
  refine at_region ?_
  refine wl_read rfl rfl rfl (yl_move rfl rfl) ?_
  refine wl_call rfl rfl rfl (en_call rfl rfl) (counts_fn ([⟨0, 1, A1, c1, [97]⟩, ⟨0, 1, A3, c3, [99]⟩] : List Msg) (⟨3, 1, 0, 0⟩ : Cts) g _ _) ?_
  rintro _ _ ⟨rfl, rfl⟩
  refine wl_read rfl rfl rfl (yl_move rfl rfl) ?_
  refine wl_read rfl rfl rfl (yl_extract rfl rfl rfl) ?_
  refine wl_read rfl rfl rfl (yl_extract rfl rfl rfl) ?_
  refine wl_read rfl rfl rfl (yl_extract rfl rfl rfl) ?_
  refine wl_read rfl rfl rfl (yl_extract rfl rfl rfl) ?_
  refine wl_read rfl rfl rfl (yl_assign rfl rfl) ?_
  refine wl_read rfl rfl rfl (yl_assign rfl rfl) ?_
  refine wl_read rfl rfl rfl (yl_assign rfl rfl) ?_
  refine wl_read rfl rfl rfl (yl_assign rfl rfl) ?_
  refine wl_nil ?_
  refine at_keep (Keep.cons 0 rfl (Keep.cons 1 rfl (Keep.cons 2 rfl (Keep.cons 3 rfl (Keep.cons 4 rfl (Keep.cons 5 rfl (Keep.cons 6 rfl (Keep.cons 7 rfl (Keep.cons 8 rfl (Keep.cons 9 rfl (Keep.cons 10 rfl (Keep.cons 11 rfl (Keep.cons 12 rfl Keep.nil))))))))))))) ?_
  refine at_seq ?_
  refine at_region ?_
  refine wl_read rfl rfl rfl (yl_move rfl rfl) ?_
  refine wl_read rfl rfl rfl ((yp_eql rfl rfl rfl).1 rfl) ?_
  refine wl_read rfl rfl rfl (yl_move rfl rfl) ?_
  refine wl_read rfl rfl rfl (yl_move rfl rfl) ?_
  refine wl_read rfl rfl rfl ((yp_eql rfl rfl rfl).1 rfl) ?_
  refine wl_read rfl rfl rfl (yl_pickT rfl rfl rfl) ?_
  refine wl_read rfl rfl rfl (yl_move rfl rfl) ?_
  refine wl_read rfl rfl rfl (yl_move rfl rfl) ?_
  refine wl_read rfl rfl rfl ((yp_eql rfl rfl rfl).1 rfl) ?_
  refine wl_read rfl rfl rfl (yl_pickT rfl rfl rfl) ?_
  refine wl_read rfl rfl rfl (yl_move rfl rfl) ?_
  refine wl_read rfl rfl rfl (yl_move rfl rfl) ?_
  refine wl_read rfl rfl rfl (yl_pickT rfl rfl rfl) ?_
  refine wl_read rfl rfl rfl (yl_move rfl rfl) ?_
  refine wl_read rfl rfl rfl (yl_fieldB rfl rfl Try.underlying33 rfl (by kernel_rfl) rfl) ?_
  refine wl_read rfl rfl rfl (yl_load rfl rfl Try.underlying27 rfl (CellAt.bk 3 rfl rfl)) ?_
  refine wl_read rfl rfl rfl (yl_string (bs := ([98] : List UInt8)) rfl rfl (Rd.of_sl 4 rfl) Try.underlying27 Try.underlying5 Try.underlying9) ?_
  refine wl_read rfl rfl rfl ((yp_eqStr (m := ([98] : List UInt8)) (n := ([98] : List UInt8)) rfl rfl rfl).1 rfl) ?_
  refine wl_read rfl rfl rfl (yl_pickT rfl rfl rfl) ?_
  refine wl_read rfl rfl rfl (yl_move rfl rfl) ?_
  refine wl_read rfl rfl rfl (yl_move rfl rfl) ?_
  refine wl_read rfl rfl rfl (yl_pickT rfl rfl rfl) ?_
  refine wl_read rfl rfl rfl (yl_move rfl rfl) ?_
  refine wl_read rfl rfl rfl (yl_fieldB rfl rfl Try.underlying33 rfl (by kernel_rfl) rfl) ?_
  refine wl_read rfl rfl rfl (yl_load rfl rfl Try.underlying27 rfl (CellAt.bk 1 rfl rfl)) ?_
  refine wl_read rfl rfl rfl (yl_string (bs := ([99] : List UInt8)) rfl rfl (Rd.of_sl 2 rfl) Try.underlying27 Try.underlying5 Try.underlying9) ?_
  refine wl_read rfl rfl rfl ((yp_eqStr (m := ([99] : List UInt8)) (n := ([99] : List UInt8)) rfl rfl rfl).1 rfl) ?_
  refine wl_read rfl rfl rfl (yl_pickT rfl rfl rfl) ?_
  refine wl_read rfl rfl rfl (yl_move rfl rfl) ?_
  refine wl_read rfl rfl rfl (yl_move rfl rfl) ?_
  refine wl_call rfl rfl rfl (en_call rfl rfl) (len_fn ([⟨0, 1, A1, c1, [97]⟩, ⟨0, 1, A3, c3, [99]⟩] : List Msg) (⟨3, 1, 0, 0⟩ : Cts) g _ _) ?_
  rintro _ _ ⟨rfl, rfl⟩
  refine wl_read rfl rfl rfl ((yp_eql rfl rfl rfl).1 rfl) ?_
  refine wl_read rfl rfl rfl (yl_pickT rfl rfl rfl) ?_
  refine wl_read rfl rfl rfl (yl_move rfl rfl) ?_
  refine wl_read rfl rfl rfl (yl_move rfl rfl) ?_
  refine wl_read rfl rfl rfl ((yp_eql rfl rfl rfl).1 rfl) ?_
  refine wl_read rfl rfl rfl (yl_pickT rfl rfl rfl) ?_
  refine wl_read rfl rfl rfl (yl_move rfl rfl) ?_
  refine wl_read rfl rfl rfl (yl_move rfl rfl) ?_
  refine wl_read rfl rfl rfl ((yp_eql rfl rfl rfl).1 rfl) ?_
  refine wl_read rfl rfl rfl (yl_pickT rfl rfl rfl) ?_
  refine wl_read rfl rfl rfl (yl_move rfl rfl) ?_
  refine wl_read rfl rfl rfl (yl_move rfl rfl) ?_
  refine wl_read rfl rfl rfl ((yp_eql rfl rfl rfl).1 rfl) ?_
  refine wl_read rfl rfl rfl (yl_pickT rfl rfl rfl) ?_
  refine wl_read rfl rfl rfl (yl_move rfl rfl) ?_
  refine wl_read rfl rfl rfl (yl_move rfl rfl) ?_
  refine wl_read rfl rfl rfl ((yp_eql rfl rfl rfl).1 rfl) ?_
  refine wl_read rfl rfl rfl (yl_pickT rfl rfl rfl) ?_
  refine wl_read rfl rfl rfl (yl_assign rfl rfl) ?_
  refine wl_nil ?_
  refine at_keep (Keep.cons 0 rfl (Keep.cons 1 rfl (Keep.cons 2 rfl (Keep.cons 3 rfl (Keep.cons 4 rfl (Keep.cons 5 rfl (Keep.cons 6 rfl (Keep.cons 7 rfl (Keep.cons 8 rfl (Keep.cons 9 rfl (Keep.cons 10 rfl (Keep.cons 11 rfl (Keep.cons 12 rfl Keep.nil))))))))))))) ?_
  refine at_retH (fun _ hw => hw.tail.tail.tail.tail.tail.tail.tail.tail.tail.tail.tail) Try.func14 (res1 rfl rfl) ?_
  exact ⟨rfl, rfl⟩
end Go.Proofs.Ytcpcgllkdpfacaa

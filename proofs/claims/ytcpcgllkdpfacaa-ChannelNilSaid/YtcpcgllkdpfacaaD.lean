/- Walks of a step on both channels. -/
import Derived.Test.YtcpcgllkdpfacaaC
import Derived.Test.YtcpcgllkdpfacaaP
namespace Go.Proofs.Ytcpcgllkdpfacaa
open Go

theorem step_send0ok (s : Sc) (n : Nat) (g r : Nat) (x : Raw) (b : World) (H : List Asr) (hs : SOk s n) (hn : n ≤ 100) (hR : Rd H x.A x.bs) (hi : I64 x.i) (hw : md x.what 8 = 0) (hok : okS x.from_ x.to_ x.bs) : Fn Try.prog 18 [.pointer (some ⟨g, 0, none⟩), .pointer (some ⟨r, 0, none⟩), .agg (Enc.cells x).toArray] b (Chn 58 g s.p s.k :: Chn 42 r s.q s.k :: Pool s.pl :: H) (fun v H' => v = .bool true ∧ ∃ s', SOk s' (n + 1) ∧ (∀ m, m ∈ s.pl → m ∈ s'.pl) ∧ H' = Chn 58 g s'.p s'.k :: Chn 42 r s'.q s'.k :: Pool s'.pl :: H) := by
  have hlen := hs.len
  have hlq := hs.lenq
  have hks := hs.ks
  have hkd := hs.kd
  have hkl := hs.kl
  have hkr := hs.kr
  have hm1 := md_bd x.i ((s.p.length : Int) + 2) (by omega)
  have hm1q := md_bd x.i ((s.q.length : Int) + 2) (by omega)
  have hm2 := md_bd (x.i.tdiv 100) 2 (by omega)
  have hq : -9223372036854775808 ≤ x.i.tdiv 100 ∧ x.i.tdiv 100 ≤ 9223372036854775807 := by
    obtain ⟨h1, h2⟩ := hi
    obtain ⟨h3, h4⟩ := tdiv_eq_if x.i 100 (by decide)
    rcases Int.le_total 0 x.i with h | h
    · have := h3 h; omega
    · have := h4 h; omega

  refine fn_of_at (by kernel_rfl) Try.func18 rfl Try.ntmps18 rfl rfl ?_
  refine at_seq ?_
  refine at_region ?_
  refine wl_eff rfl rfl rfl (ef_box rfl rfl rfl) ?_
  rintro _ _ ⟨g0, rfl, rfl⟩
  refine wl_read rfl rfl rfl (yl_assign rfl rfl) ?_
  refine wl_nil ?_
  refine at_keep (Keep.cons 0 rfl (Keep.cons 1 rfl (Keep.cons 2 rfl (Keep.cons 5 rfl (Keep.cons 6 rfl Keep.nil))))) ?_
  refine at_seq ?_
  refine at_heap (fun _ hw => hw.front2) ?_
  refine at_open (fun _ hw => Chn.opens hw) (fun x => ?_)
  obtain ⟨A9, c9⟩ := x
  refine at_draw0 (.fl 0 (.fl 1 (.fl 2 (.fl 3 (.fl 4 (.fl 5 (.fl 6 (.fl 7 (.fl 9 (.fl 10 (.fl 11 (.ef 8 (.ef 12 (.fl 13 (.fl 14 .nil))))))))))))))) (by kernel_rfl) (by kernel_rfl) ?_
  refine wt_read rfl rfl rfl rfl (yl_fieldB rfl rfl Try.underlying45 rfl (by kernel_rfl) rfl) ?_
  refine wt_read rfl rfl rfl rfl (yl_load rfl rfl Try.underlying3 rfl (CellAt.bk 2 rfl rfl)) ?_
  refine wt_read rfl rfl rfl rfl (yl_move rfl rfl) ?_
  refine wt_read rfl rfl rfl rfl (yl_nilCheck rfl rfl) ?_
  refine wt_read rfl rfl rfl rfl (yl_fieldB rfl rfl Try.underlying42 rfl (by kernel_rfl) rfl) ?_
  refine wt_read rfl rfl rfl rfl (yl_load rfl rfl Try.underlying40 rfl (CellAt.bk 0 rfl rfl)) ?_
  refine wt_read rfl rfl rfl rfl (yl_len rfl rfl Try.underlying40) ?_
  refine wt_read rfl rfl rfl rfl (yl_add rfl rfl rfl (w64 (by omega) (by omega))) ?_
  refine wt_read rfl rfl rfl rfl (yl_fieldB rfl rfl Try.underlying45 rfl (by kernel_rfl) rfl) ?_
  refine wt_read rfl rfl rfl rfl (yl_load rfl rfl Try.underlying3 rfl (CellAt.bk 2 rfl rfl)) ?_
  refine wt_read rfl rfl rfl rfl (yl_quo rfl rfl rfl (by decide) (w64 hq.1 hq.2)) ?_
  refine wt_call rfl rfl rfl rfl (en_call rfl rfl) (mod_fn _ _ _ _ (by omega) (by omega)) ?_
  rintro _ _ ⟨rfl, rfl⟩
  refine ⟨⟨[], rfl⟩, ?_⟩
  refine wt_call rfl rfl rfl rfl (en_call rfl rfl) (mod_fn _ _ _ _ (by decide) (by decide)) ?_
  rintro _ _ ⟨rfl, rfl⟩
  refine ⟨⟨[], rfl⟩, ?_⟩
  refine wt_read rfl rfl rfl rfl (yl_sub rfl rfl rfl (w64 (by omega) (by omega))) ?_
  refine wt_read rfl rfl rfl rfl (yl_assign rfl rfl) ?_
  refine wt_nil ?_
  refine at_keep (Keep.cons 0 rfl (Keep.cons 1 rfl (Keep.cons 2 rfl (Keep.cons 5 rfl (Keep.cons 6 rfl (Keep.cons 7 rfl Keep.nil)))))) ?_
  refine at_seq ?_
  refine at_seq ?_
  refine at_heap (fun _ hw => hw.front1.front1) ?_
  refine at_heap (fun _ hw => Chn.closes (ms := s.q) (k := s.k) hw) ?_
  rw [hlq]
  rw [show md x.i ((s.p.length : Int) + 2) - md (x.i.tdiv 100) 2 = iv s x.i from rfl]
  refine at_region ?_
  refine wl_read rfl rfl rfl (yl_fieldB rfl rfl Try.underlying45 rfl (by kernel_rfl) rfl) ?_
  refine wl_read rfl rfl rfl (yl_load rfl rfl Try.underlying3 rfl (CellAt.bk 1 rfl rfl)) ?_
  refine wl_call rfl rfl rfl (en_call rfl rfl) (mod_fn _ _ _ _ (by decide) (by decide)) ?_
  rintro _ _ ⟨rfl, rfl⟩
  refine wl_nil ?_
  refine at_keep (Keep.cons 0 rfl (Keep.cons 1 rfl (Keep.cons 2 rfl (Keep.cons 5 rfl (Keep.cons 6 rfl (Keep.cons 7 rfl (Keep.cons 34 rfl Keep.nil))))))) ?_
  refine at_block ?_
  refine at_seq ?_
  refine at_region ?_
  refine wl_read rfl rfl rfl ((yp_eql rfl rfl rfl).1 (by omega)) ?_
  refine wl_read rfl rfl rfl (yl_assign rfl rfl) ?_
  refine wl_nil ?_
  refine at_keep (Keep.cons 0 rfl (Keep.cons 1 rfl (Keep.cons 2 rfl (Keep.cons 5 rfl (Keep.cons 6 rfl (Keep.cons 7 rfl (Keep.cons 34 rfl (Keep.cons 35 rfl Keep.nil)))))))) ?_
  refine at_true rfl ?_
  refine at_seq ?_
  refine at_heap (fun _ hw => hw.front3.front2.front2.front3) ?_
  refine at_draw2 (.fl 0 (.fl 1 (.fl 2 (.fl 3 (.fl 4 (.fl 5 (.fl 6 (.fl 8 (.fl 9 (.fl 10 (.fl 11 (.fl 12 (.fl 13 (.fl 14 (.ef 7 (.ef 15 (.fl 16 (.fl 17 .nil)))))))))))))))))) (by kernel_rfl) (by kernel_rfl) ?_
  refine wt_read rfl rfl rfl rfl (yl_move rfl rfl) ?_
  refine wt_read rfl rfl rfl rfl (yl_fieldB rfl rfl Try.underlying45 rfl (by kernel_rfl) rfl) ?_
  refine wt_read rfl rfl rfl rfl (yl_load rfl rfl Try.underlying3 rfl (CellAt.bk 0 rfl rfl)) ?_
  refine wt_read rfl rfl rfl rfl (yl_fieldB rfl rfl Try.underlying45 rfl (by kernel_rfl) rfl) ?_
  refine wt_read rfl rfl rfl rfl (yl_load rfl rfl Try.underlying3 rfl (CellAt.bk 0 rfl rfl)) ?_
  refine wt_read rfl rfl rfl rfl (yl_fieldB rfl rfl Try.underlying45 rfl (by kernel_rfl) rfl) ?_
  refine wt_read rfl rfl rfl rfl (yl_load rfl rfl Try.underlying27 rfl (CellAt.bk 0 rfl rfl)) ?_
  refine wt_read rfl rfl rfl rfl (yl_move rfl rfl) ?_
  refine wt_read rfl rfl rfl rfl (yl_fieldB rfl rfl Try.underlying45 rfl (by kernel_rfl) rfl) ?_
  refine wt_read rfl rfl rfl rfl (yl_load rfl rfl Try.underlying3 rfl (CellAt.bk 0 rfl rfl)) ?_
  refine wt_read rfl rfl rfl rfl (yl_fieldB rfl rfl Try.underlying45 rfl (by kernel_rfl) rfl) ?_
  refine wt_read rfl rfl rfl rfl (yl_load rfl rfl Try.underlying3 rfl (CellAt.bk 0 rfl rfl)) ?_
  refine wt_read rfl rfl rfl rfl (yl_fieldB rfl rfl Try.underlying45 rfl (by kernel_rfl) rfl) ?_
  refine wt_read rfl rfl rfl rfl (yl_load rfl rfl Try.underlying27 rfl (CellAt.bk 0 rfl rfl)) ?_
  refine wt_call rfl rfl rfl rfl (en_call rfl rfl) (send_fn s.p s.k g _ _ x.from_ x.to_ x.bs x.A x.c hok (by omega) (by omega) (((hR.cons _).cons _).cons _)) ?_
  rintro _ _ ⟨A1, c1, rfl, rfl⟩
  refine ⟨⟨[_, _, _], rfl⟩, ?_⟩
  refine wt_heap (fun _ hw => hw.front2) ?_
  refine wt_call rfl rfl rfl rfl (en_call rfl rfl) (rsend_fn s.q s.k r _ _ x.from_ x.to_ x.bs x.A x.c hok (by omega) (by omega) ((((hR.cons _).cons _).cons _).cons _)) ?_
  rintro _ _ ⟨A2, c2, rfl, rfl⟩
  refine ⟨⟨[_, _, _, _], rfl⟩, ?_⟩
  refine wt_read rfl rfl rfl rfl ((yp_eql rfl rfl rfl).1 rfl) ?_
  refine wt_read rfl rfl rfl rfl (yl_assign rfl rfl) ?_
  refine wt_nil ?_
  refine at_keep (Keep.cons 0 rfl (Keep.cons 1 rfl (Keep.cons 2 rfl (Keep.cons 5 rfl (Keep.cons 6 rfl (Keep.cons 7 rfl (Keep.cons 34 rfl (Keep.cons 35 rfl Keep.nil)))))))) ?_
  refine at_retH (fun _ hw => (hw.front1.front3.front2.front5.front4.drop5).poolIn.front1.poolIn.down2) Try.func18 (res1 rfl rfl) ?_
  exact ⟨rfl, ⟨s.p ++ [(⟨x.from_, x.to_, A1, c1, x.bs⟩ : Msg)], s.q ++ [(⟨x.from_, x.to_, A2, c2, x.bs⟩ : Msg)], { s.k with sent := s.k.sent + 1 }, Msg.mem (⟨x.from_, x.to_, A2, c2, x.bs⟩ : Msg) :: Msg.mem (⟨x.from_, x.to_, A1, c1, x.bs⟩ : Msg) :: s.pl⟩, hs.add (⟨x.from_, x.to_, A1, c1, x.bs⟩ : Msg) (⟨x.from_, x.to_, A2, c2, x.bs⟩ : Msg) rfl hok.2.2.2.2 _ (.inl rfl), fun _ h => List.mem_cons_of_mem _ (List.mem_cons_of_mem _ h), rfl⟩
theorem step_send0bad (s : Sc) (n : Nat) (g r : Nat) (x : Raw) (b : World) (H : List Asr) (hs : SOk s n) (hn : n ≤ 100) (hR : Rd H x.A x.bs) (hi : I64 x.i) (hw : md x.what 8 = 0) (hok : ¬ okS x.from_ x.to_ x.bs) : Fn Try.prog 18 [.pointer (some ⟨g, 0, none⟩), .pointer (some ⟨r, 0, none⟩), .agg (Enc.cells x).toArray] b (Chn 58 g s.p s.k :: Chn 42 r s.q s.k :: Pool s.pl :: H) (fun v H' => v = .bool true ∧ ∃ s', SOk s' (n + 1) ∧ (∀ m, m ∈ s.pl → m ∈ s'.pl) ∧ H' = Chn 58 g s'.p s'.k :: Chn 42 r s'.q s'.k :: Pool s'.pl :: H) := by
  have hlen := hs.len
  have hlq := hs.lenq
  have hks := hs.ks
  have hkd := hs.kd
  have hkl := hs.kl
  have hkr := hs.kr
  have hm1 := md_bd x.i ((s.p.length : Int) + 2) (by omega)
  have hm1q := md_bd x.i ((s.q.length : Int) + 2) (by omega)
  have hm2 := md_bd (x.i.tdiv 100) 2 (by omega)
  have hq : -9223372036854775808 ≤ x.i.tdiv 100 ∧ x.i.tdiv 100 ≤ 9223372036854775807 := by
    obtain ⟨h1, h2⟩ := hi
    obtain ⟨h3, h4⟩ := tdiv_eq_if x.i 100 (by decide)
    rcases Int.le_total 0 x.i with h | h
    · have := h3 h; omega
    · have := h4 h; omega

  refine fn_of_at (by kernel_rfl) Try.func18 rfl Try.ntmps18 rfl rfl ?_
  refine at_seq ?_
  refine at_region ?_
  refine wl_eff rfl rfl rfl (ef_box rfl rfl rfl) ?_
  rintro _ _ ⟨g0, rfl, rfl⟩
  refine wl_read rfl rfl rfl (yl_assign rfl rfl) ?_
  refine wl_nil ?_
  refine at_keep (Keep.cons 0 rfl (Keep.cons 1 rfl (Keep.cons 2 rfl (Keep.cons 5 rfl (Keep.cons 6 rfl Keep.nil))))) ?_
  refine at_seq ?_
  refine at_heap (fun _ hw => hw.front2) ?_
  refine at_open (fun _ hw => Chn.opens hw) (fun x => ?_)
  obtain ⟨A9, c9⟩ := x
  refine at_draw0 (.fl 0 (.fl 1 (.fl 2 (.fl 3 (.fl 4 (.fl 5 (.fl 6 (.fl 7 (.fl 9 (.fl 10 (.fl 11 (.ef 8 (.ef 12 (.fl 13 (.fl 14 .nil))))))))))))))) (by kernel_rfl) (by kernel_rfl) ?_
  refine wt_read rfl rfl rfl rfl (yl_fieldB rfl rfl Try.underlying45 rfl (by kernel_rfl) rfl) ?_
  refine wt_read rfl rfl rfl rfl (yl_load rfl rfl Try.underlying3 rfl (CellAt.bk 2 rfl rfl)) ?_
  refine wt_read rfl rfl rfl rfl (yl_move rfl rfl) ?_
  refine wt_read rfl rfl rfl rfl (yl_nilCheck rfl rfl) ?_
  refine wt_read rfl rfl rfl rfl (yl_fieldB rfl rfl Try.underlying42 rfl (by kernel_rfl) rfl) ?_
  refine wt_read rfl rfl rfl rfl (yl_load rfl rfl Try.underlying40 rfl (CellAt.bk 0 rfl rfl)) ?_
  refine wt_read rfl rfl rfl rfl (yl_len rfl rfl Try.underlying40) ?_
  refine wt_read rfl rfl rfl rfl (yl_add rfl rfl rfl (w64 (by omega) (by omega))) ?_
  refine wt_read rfl rfl rfl rfl (yl_fieldB rfl rfl Try.underlying45 rfl (by kernel_rfl) rfl) ?_
  refine wt_read rfl rfl rfl rfl (yl_load rfl rfl Try.underlying3 rfl (CellAt.bk 2 rfl rfl)) ?_
  refine wt_read rfl rfl rfl rfl (yl_quo rfl rfl rfl (by decide) (w64 hq.1 hq.2)) ?_
  refine wt_call rfl rfl rfl rfl (en_call rfl rfl) (mod_fn _ _ _ _ (by omega) (by omega)) ?_
  rintro _ _ ⟨rfl, rfl⟩
  refine ⟨⟨[], rfl⟩, ?_⟩
  refine wt_call rfl rfl rfl rfl (en_call rfl rfl) (mod_fn _ _ _ _ (by decide) (by decide)) ?_
  rintro _ _ ⟨rfl, rfl⟩
  refine ⟨⟨[], rfl⟩, ?_⟩
  refine wt_read rfl rfl rfl rfl (yl_sub rfl rfl rfl (w64 (by omega) (by omega))) ?_
  refine wt_read rfl rfl rfl rfl (yl_assign rfl rfl) ?_
  refine wt_nil ?_
  refine at_keep (Keep.cons 0 rfl (Keep.cons 1 rfl (Keep.cons 2 rfl (Keep.cons 5 rfl (Keep.cons 6 rfl (Keep.cons 7 rfl Keep.nil)))))) ?_
  refine at_seq ?_
  refine at_seq ?_
  refine at_heap (fun _ hw => hw.front1.front1) ?_
  refine at_heap (fun _ hw => Chn.closes (ms := s.q) (k := s.k) hw) ?_
  rw [hlq]
  rw [show md x.i ((s.p.length : Int) + 2) - md (x.i.tdiv 100) 2 = iv s x.i from rfl]
  refine at_region ?_
  refine wl_read rfl rfl rfl (yl_fieldB rfl rfl Try.underlying45 rfl (by kernel_rfl) rfl) ?_
  refine wl_read rfl rfl rfl (yl_load rfl rfl Try.underlying3 rfl (CellAt.bk 1 rfl rfl)) ?_
  refine wl_call rfl rfl rfl (en_call rfl rfl) (mod_fn _ _ _ _ (by decide) (by decide)) ?_
  rintro _ _ ⟨rfl, rfl⟩
  refine wl_nil ?_
  refine at_keep (Keep.cons 0 rfl (Keep.cons 1 rfl (Keep.cons 2 rfl (Keep.cons 5 rfl (Keep.cons 6 rfl (Keep.cons 7 rfl (Keep.cons 34 rfl Keep.nil))))))) ?_
  refine at_block ?_
  refine at_seq ?_
  refine at_region ?_
  refine wl_read rfl rfl rfl ((yp_eql rfl rfl rfl).1 (by omega)) ?_
  refine wl_read rfl rfl rfl (yl_assign rfl rfl) ?_
  refine wl_nil ?_
  refine at_keep (Keep.cons 0 rfl (Keep.cons 1 rfl (Keep.cons 2 rfl (Keep.cons 5 rfl (Keep.cons 6 rfl (Keep.cons 7 rfl (Keep.cons 34 rfl (Keep.cons 35 rfl Keep.nil)))))))) ?_
  refine at_true rfl ?_
  refine at_seq ?_
  refine at_heap (fun _ hw => hw.front3.front2.front2.front3) ?_
  refine at_draw2 (.fl 0 (.fl 1 (.fl 2 (.fl 3 (.fl 4 (.fl 5 (.fl 6 (.fl 8 (.fl 9 (.fl 10 (.fl 11 (.fl 12 (.fl 13 (.fl 14 (.ef 7 (.ef 15 (.fl 16 (.fl 17 .nil)))))))))))))))))) (by kernel_rfl) (by kernel_rfl) ?_
  refine wt_read rfl rfl rfl rfl (yl_move rfl rfl) ?_
  refine wt_read rfl rfl rfl rfl (yl_fieldB rfl rfl Try.underlying45 rfl (by kernel_rfl) rfl) ?_
  refine wt_read rfl rfl rfl rfl (yl_load rfl rfl Try.underlying3 rfl (CellAt.bk 0 rfl rfl)) ?_
  refine wt_read rfl rfl rfl rfl (yl_fieldB rfl rfl Try.underlying45 rfl (by kernel_rfl) rfl) ?_
  refine wt_read rfl rfl rfl rfl (yl_load rfl rfl Try.underlying3 rfl (CellAt.bk 0 rfl rfl)) ?_
  refine wt_read rfl rfl rfl rfl (yl_fieldB rfl rfl Try.underlying45 rfl (by kernel_rfl) rfl) ?_
  refine wt_read rfl rfl rfl rfl (yl_load rfl rfl Try.underlying27 rfl (CellAt.bk 0 rfl rfl)) ?_
  refine wt_read rfl rfl rfl rfl (yl_move rfl rfl) ?_
  refine wt_read rfl rfl rfl rfl (yl_fieldB rfl rfl Try.underlying45 rfl (by kernel_rfl) rfl) ?_
  refine wt_read rfl rfl rfl rfl (yl_load rfl rfl Try.underlying3 rfl (CellAt.bk 0 rfl rfl)) ?_
  refine wt_read rfl rfl rfl rfl (yl_fieldB rfl rfl Try.underlying45 rfl (by kernel_rfl) rfl) ?_
  refine wt_read rfl rfl rfl rfl (yl_load rfl rfl Try.underlying3 rfl (CellAt.bk 0 rfl rfl)) ?_
  refine wt_read rfl rfl rfl rfl (yl_fieldB rfl rfl Try.underlying45 rfl (by kernel_rfl) rfl) ?_
  refine wt_read rfl rfl rfl rfl (yl_load rfl rfl Try.underlying27 rfl (CellAt.bk 0 rfl rfl)) ?_
  refine wt_call rfl rfl rfl rfl (en_call rfl rfl) (send_bad s.p s.k g _ _ x.from_ x.to_ x.bs x.A x.c hok) ?_
  rintro _ _ ⟨rfl, rfl⟩
  refine ⟨⟨[_, _], rfl⟩, ?_⟩
  refine wt_heap (fun _ hw => hw.front1) ?_
  refine wt_call rfl rfl rfl rfl (en_call rfl rfl) (rsend_bad s.q s.k r _ _ x.from_ x.to_ x.bs x.A x.c hok) ?_
  rintro _ _ ⟨rfl, rfl⟩
  refine ⟨⟨[_, _], rfl⟩, ?_⟩
  refine wt_read rfl rfl rfl rfl ((yp_eql rfl rfl rfl).1 rfl) ?_
  refine wt_read rfl rfl rfl rfl (yl_assign rfl rfl) ?_
  refine wt_nil ?_
  refine at_keep (Keep.cons 0 rfl (Keep.cons 1 rfl (Keep.cons 2 rfl (Keep.cons 5 rfl (Keep.cons 6 rfl (Keep.cons 7 rfl (Keep.cons 34 rfl (Keep.cons 35 rfl Keep.nil)))))))) ?_
  refine at_retH (fun _ hw => hw.front3.front1.front2.drop3) Try.func18 (res1 rfl rfl) ?_
  exact ⟨rfl, s, hs.mono, fun _ h => h, rfl⟩
theorem step_send1ok (s : Sc) (n : Nat) (g r : Nat) (x : Raw) (b : World) (H : List Asr) (hs : SOk s n) (hn : n ≤ 100) (hR : Rd H x.A x.bs) (hi : I64 x.i) (hw : md x.what 8 = 1) (hok : okS (md x.from_ 6) (md x.to_ 6) x.bs) : Fn Try.prog 18 [.pointer (some ⟨g, 0, none⟩), .pointer (some ⟨r, 0, none⟩), .agg (Enc.cells x).toArray] b (Chn 58 g s.p s.k :: Chn 42 r s.q s.k :: Pool s.pl :: H) (fun v H' => v = .bool true ∧ ∃ s', SOk s' (n + 1) ∧ (∀ m, m ∈ s.pl → m ∈ s'.pl) ∧ H' = Chn 58 g s'.p s'.k :: Chn 42 r s'.q s'.k :: Pool s'.pl :: H) := by
  have hlen := hs.len
  have hlq := hs.lenq
  have hks := hs.ks
  have hkd := hs.kd
  have hkl := hs.kl
  have hkr := hs.kr
  have hm1 := md_bd x.i ((s.p.length : Int) + 2) (by omega)
  have hm1q := md_bd x.i ((s.q.length : Int) + 2) (by omega)
  have hm2 := md_bd (x.i.tdiv 100) 2 (by omega)
  have hq : -9223372036854775808 ≤ x.i.tdiv 100 ∧ x.i.tdiv 100 ≤ 9223372036854775807 := by
    obtain ⟨h1, h2⟩ := hi
    obtain ⟨h3, h4⟩ := tdiv_eq_if x.i 100 (by decide)
    rcases Int.le_total 0 x.i with h | h
    · have := h3 h; omega
    · have := h4 h; omega

  have hf6 := md_bd x.from_ 6 (by decide)
  have ht6 := md_bd x.to_ 6 (by decide)
  refine fn_of_at (by kernel_rfl) Try.func18 rfl Try.ntmps18 rfl rfl ?_
  refine at_seq ?_
  refine at_region ?_
  refine wl_eff rfl rfl rfl (ef_box rfl rfl rfl) ?_
  rintro _ _ ⟨g0, rfl, rfl⟩
  refine wl_read rfl rfl rfl (yl_assign rfl rfl) ?_
  refine wl_nil ?_
  refine at_keep (Keep.cons 0 rfl (Keep.cons 1 rfl (Keep.cons 2 rfl (Keep.cons 5 rfl (Keep.cons 6 rfl Keep.nil))))) ?_
  refine at_seq ?_
  refine at_heap (fun _ hw => hw.front2) ?_
  refine at_open (fun _ hw => Chn.opens hw) (fun x => ?_)
  obtain ⟨A9, c9⟩ := x
  refine at_draw0 (.fl 0 (.fl 1 (.fl 2 (.fl 3 (.fl 4 (.fl 5 (.fl 6 (.fl 7 (.fl 9 (.fl 10 (.fl 11 (.ef 8 (.ef 12 (.fl 13 (.fl 14 .nil))))))))))))))) (by kernel_rfl) (by kernel_rfl) ?_
  refine wt_read rfl rfl rfl rfl (yl_fieldB rfl rfl Try.underlying45 rfl (by kernel_rfl) rfl) ?_
  refine wt_read rfl rfl rfl rfl (yl_load rfl rfl Try.underlying3 rfl (CellAt.bk 2 rfl rfl)) ?_
  refine wt_read rfl rfl rfl rfl (yl_move rfl rfl) ?_
  refine wt_read rfl rfl rfl rfl (yl_nilCheck rfl rfl) ?_
  refine wt_read rfl rfl rfl rfl (yl_fieldB rfl rfl Try.underlying42 rfl (by kernel_rfl) rfl) ?_
  refine wt_read rfl rfl rfl rfl (yl_load rfl rfl Try.underlying40 rfl (CellAt.bk 0 rfl rfl)) ?_
  refine wt_read rfl rfl rfl rfl (yl_len rfl rfl Try.underlying40) ?_
  refine wt_read rfl rfl rfl rfl (yl_add rfl rfl rfl (w64 (by omega) (by omega))) ?_
  refine wt_read rfl rfl rfl rfl (yl_fieldB rfl rfl Try.underlying45 rfl (by kernel_rfl) rfl) ?_
  refine wt_read rfl rfl rfl rfl (yl_load rfl rfl Try.underlying3 rfl (CellAt.bk 2 rfl rfl)) ?_
  refine wt_read rfl rfl rfl rfl (yl_quo rfl rfl rfl (by decide) (w64 hq.1 hq.2)) ?_
  refine wt_call rfl rfl rfl rfl (en_call rfl rfl) (mod_fn _ _ _ _ (by omega) (by omega)) ?_
  rintro _ _ ⟨rfl, rfl⟩
  refine ⟨⟨[], rfl⟩, ?_⟩
  refine wt_call rfl rfl rfl rfl (en_call rfl rfl) (mod_fn _ _ _ _ (by decide) (by decide)) ?_
  rintro _ _ ⟨rfl, rfl⟩
  refine ⟨⟨[], rfl⟩, ?_⟩
  refine wt_read rfl rfl rfl rfl (yl_sub rfl rfl rfl (w64 (by omega) (by omega))) ?_
  refine wt_read rfl rfl rfl rfl (yl_assign rfl rfl) ?_
  refine wt_nil ?_
  refine at_keep (Keep.cons 0 rfl (Keep.cons 1 rfl (Keep.cons 2 rfl (Keep.cons 5 rfl (Keep.cons 6 rfl (Keep.cons 7 rfl Keep.nil)))))) ?_
  refine at_seq ?_
  refine at_seq ?_
  refine at_heap (fun _ hw => hw.front1.front1) ?_
  refine at_heap (fun _ hw => Chn.closes (ms := s.q) (k := s.k) hw) ?_
  rw [hlq]
  rw [show md x.i ((s.p.length : Int) + 2) - md (x.i.tdiv 100) 2 = iv s x.i from rfl]
  refine at_region ?_
  refine wl_read rfl rfl rfl (yl_fieldB rfl rfl Try.underlying45 rfl (by kernel_rfl) rfl) ?_
  refine wl_read rfl rfl rfl (yl_load rfl rfl Try.underlying3 rfl (CellAt.bk 1 rfl rfl)) ?_
  refine wl_call rfl rfl rfl (en_call rfl rfl) (mod_fn _ _ _ _ (by decide) (by decide)) ?_
  rintro _ _ ⟨rfl, rfl⟩
  refine wl_nil ?_
  refine at_keep (Keep.cons 0 rfl (Keep.cons 1 rfl (Keep.cons 2 rfl (Keep.cons 5 rfl (Keep.cons 6 rfl (Keep.cons 7 rfl (Keep.cons 34 rfl Keep.nil))))))) ?_
  refine at_block ?_
  refine at_seq ?_
  refine at_region ?_
  refine wl_read rfl rfl rfl ((yp_eql rfl rfl rfl).2 (by omega)) ?_
  refine wl_read rfl rfl rfl (yl_assign rfl rfl) ?_
  refine wl_nil ?_
  refine at_keep (Keep.cons 0 rfl (Keep.cons 1 rfl (Keep.cons 2 rfl (Keep.cons 5 rfl (Keep.cons 6 rfl (Keep.cons 7 rfl (Keep.cons 34 rfl (Keep.cons 35 rfl Keep.nil)))))))) ?_
  refine at_false rfl ?_
  refine at_seq ?_
  refine at_seq ?_
  refine at_region ?_
  refine wl_read rfl rfl rfl ((yp_eql rfl rfl rfl).1 (by omega)) ?_
  refine wl_read rfl rfl rfl (yl_assign rfl rfl) ?_
  refine wl_nil ?_
  refine at_keep (Keep.cons 0 rfl (Keep.cons 1 rfl (Keep.cons 2 rfl (Keep.cons 5 rfl (Keep.cons 6 rfl (Keep.cons 7 rfl (Keep.cons 34 rfl (Keep.cons 35 rfl (Keep.cons 54 rfl Keep.nil))))))))) ?_
  refine at_true rfl ?_
  refine at_skip ?_
  refine at_true rfl ?_
  refine at_seq ?_
  refine at_draw0 (.fl 0 (.fl 1 (.fl 3 (.fl 4 (.ef 2 (.ef 5 (.fl 6 (.fl 7 .nil)))))))) (by kernel_rfl) (by kernel_rfl) ?_
  refine wt_read rfl rfl rfl rfl (yl_fieldB rfl rfl Try.underlying45 rfl (by kernel_rfl) rfl) ?_
  refine wt_read rfl rfl rfl rfl (yl_load rfl rfl Try.underlying3 rfl (CellAt.bk 1 rfl rfl)) ?_
  refine wt_read rfl rfl rfl rfl (yl_fieldB rfl rfl Try.underlying45 rfl (by kernel_rfl) rfl) ?_
  refine wt_read rfl rfl rfl rfl (yl_load rfl rfl Try.underlying3 rfl (CellAt.bk 1 rfl rfl)) ?_
  refine wt_call rfl rfl rfl rfl (en_call rfl rfl) (mod_fn _ _ _ _ (by decide) (by decide)) ?_
  rintro _ _ ⟨rfl, rfl⟩
  refine ⟨⟨[], rfl⟩, ?_⟩
  refine wt_call rfl rfl rfl rfl (en_call rfl rfl) (mod_fn _ _ _ _ (by decide) (by decide)) ?_
  rintro _ _ ⟨rfl, rfl⟩
  refine ⟨⟨[], rfl⟩, ?_⟩
  refine wt_read rfl rfl rfl rfl (yl_assign rfl rfl) ?_
  refine wt_read rfl rfl rfl rfl (yl_assign rfl rfl) ?_
  refine wt_nil ?_
  refine at_keep (Keep.cons 0 rfl (Keep.cons 1 rfl (Keep.cons 2 rfl (Keep.cons 5 rfl (Keep.cons 6 rfl (Keep.cons 7 rfl (Keep.cons 8 rfl (Keep.cons 9 rfl (Keep.cons 34 rfl (Keep.cons 35 rfl (Keep.cons 54 rfl Keep.nil))))))))))) ?_
  refine at_seq ?_
  refine at_heap (fun _ hw => hw.front3.front2.front2.front3) ?_
  refine at_draw2 (.fl 0 (.fl 1 (.fl 2 (.fl 3 (.fl 4 (.fl 6 (.fl 7 (.fl 8 (.fl 9 (.fl 10 (.ef 5 (.ef 11 (.fl 12 (.fl 13 .nil)))))))))))))) (by kernel_rfl) (by kernel_rfl) ?_
  refine wt_read rfl rfl rfl rfl (yl_move rfl rfl) ?_
  refine wt_read rfl rfl rfl rfl (yl_move rfl rfl) ?_
  refine wt_read rfl rfl rfl rfl (yl_move rfl rfl) ?_
  refine wt_read rfl rfl rfl rfl (yl_fieldB rfl rfl Try.underlying45 rfl (by kernel_rfl) rfl) ?_
  refine wt_read rfl rfl rfl rfl (yl_load rfl rfl Try.underlying27 rfl (CellAt.bk 0 rfl rfl)) ?_
  refine wt_read rfl rfl rfl rfl (yl_move rfl rfl) ?_
  refine wt_read rfl rfl rfl rfl (yl_move rfl rfl) ?_
  refine wt_read rfl rfl rfl rfl (yl_move rfl rfl) ?_
  refine wt_read rfl rfl rfl rfl (yl_fieldB rfl rfl Try.underlying45 rfl (by kernel_rfl) rfl) ?_
  refine wt_read rfl rfl rfl rfl (yl_load rfl rfl Try.underlying27 rfl (CellAt.bk 0 rfl rfl)) ?_
  refine wt_call rfl rfl rfl rfl (en_call rfl rfl) (send_fn s.p s.k g _ _ (md x.from_ 6) (md x.to_ 6) x.bs x.A x.c hok (by omega) (by omega) (((hR.cons _).cons _).cons _)) ?_
  rintro _ _ ⟨A1, c1, rfl, rfl⟩
  refine ⟨⟨[_, _, _], rfl⟩, ?_⟩
  refine wt_heap (fun _ hw => hw.front2) ?_
  refine wt_call rfl rfl rfl rfl (en_call rfl rfl) (rsend_fn s.q s.k r _ _ (md x.from_ 6) (md x.to_ 6) x.bs x.A x.c hok (by omega) (by omega) ((((hR.cons _).cons _).cons _).cons _)) ?_
  rintro _ _ ⟨A2, c2, rfl, rfl⟩
  refine ⟨⟨[_, _, _, _], rfl⟩, ?_⟩
  refine wt_read rfl rfl rfl rfl ((yp_eql rfl rfl rfl).1 rfl) ?_
  refine wt_read rfl rfl rfl rfl (yl_assign rfl rfl) ?_
  refine wt_nil ?_
  refine at_keep (Keep.cons 0 rfl (Keep.cons 1 rfl (Keep.cons 2 rfl (Keep.cons 5 rfl (Keep.cons 6 rfl (Keep.cons 7 rfl (Keep.cons 8 rfl (Keep.cons 9 rfl (Keep.cons 34 rfl (Keep.cons 35 rfl (Keep.cons 54 rfl Keep.nil))))))))))) ?_
  refine at_retH (fun _ hw => (hw.front1.front3.front2.front5.front4.drop5).poolIn.front1.poolIn.down2) Try.func18 (res1 rfl rfl) ?_
  exact ⟨rfl, ⟨s.p ++ [(⟨(md x.from_ 6), (md x.to_ 6), A1, c1, x.bs⟩ : Msg)], s.q ++ [(⟨(md x.from_ 6), (md x.to_ 6), A2, c2, x.bs⟩ : Msg)], { s.k with sent := s.k.sent + 1 }, Msg.mem (⟨(md x.from_ 6), (md x.to_ 6), A2, c2, x.bs⟩ : Msg) :: Msg.mem (⟨(md x.from_ 6), (md x.to_ 6), A1, c1, x.bs⟩ : Msg) :: s.pl⟩, hs.add (⟨(md x.from_ 6), (md x.to_ 6), A1, c1, x.bs⟩ : Msg) (⟨(md x.from_ 6), (md x.to_ 6), A2, c2, x.bs⟩ : Msg) rfl hok.2.2.2.2 _ (.inl rfl), fun _ h => List.mem_cons_of_mem _ (List.mem_cons_of_mem _ h), rfl⟩
theorem step_send1bad (s : Sc) (n : Nat) (g r : Nat) (x : Raw) (b : World) (H : List Asr) (hs : SOk s n) (hn : n ≤ 100) (hR : Rd H x.A x.bs) (hi : I64 x.i) (hw : md x.what 8 = 1) (hok : ¬ okS (md x.from_ 6) (md x.to_ 6) x.bs) : Fn Try.prog 18 [.pointer (some ⟨g, 0, none⟩), .pointer (some ⟨r, 0, none⟩), .agg (Enc.cells x).toArray] b (Chn 58 g s.p s.k :: Chn 42 r s.q s.k :: Pool s.pl :: H) (fun v H' => v = .bool true ∧ ∃ s', SOk s' (n + 1) ∧ (∀ m, m ∈ s.pl → m ∈ s'.pl) ∧ H' = Chn 58 g s'.p s'.k :: Chn 42 r s'.q s'.k :: Pool s'.pl :: H) := by
  have hlen := hs.len
  have hlq := hs.lenq
  have hks := hs.ks
  have hkd := hs.kd
  have hkl := hs.kl
  have hkr := hs.kr
  have hm1 := md_bd x.i ((s.p.length : Int) + 2) (by omega)
  have hm1q := md_bd x.i ((s.q.length : Int) + 2) (by omega)
  have hm2 := md_bd (x.i.tdiv 100) 2 (by omega)
  have hq : -9223372036854775808 ≤ x.i.tdiv 100 ∧ x.i.tdiv 100 ≤ 9223372036854775807 := by
    obtain ⟨h1, h2⟩ := hi
    obtain ⟨h3, h4⟩ := tdiv_eq_if x.i 100 (by decide)
    rcases Int.le_total 0 x.i with h | h
    · have := h3 h; omega
    · have := h4 h; omega

  have hf6 := md_bd x.from_ 6 (by decide)
  have ht6 := md_bd x.to_ 6 (by decide)
  refine fn_of_at (by kernel_rfl) Try.func18 rfl Try.ntmps18 rfl rfl ?_
  refine at_seq ?_
  refine at_region ?_
  refine wl_eff rfl rfl rfl (ef_box rfl rfl rfl) ?_
  rintro _ _ ⟨g0, rfl, rfl⟩
  refine wl_read rfl rfl rfl (yl_assign rfl rfl) ?_
  refine wl_nil ?_
  refine at_keep (Keep.cons 0 rfl (Keep.cons 1 rfl (Keep.cons 2 rfl (Keep.cons 5 rfl (Keep.cons 6 rfl Keep.nil))))) ?_
  refine at_seq ?_
  refine at_heap (fun _ hw => hw.front2) ?_
  refine at_open (fun _ hw => Chn.opens hw) (fun x => ?_)
  obtain ⟨A9, c9⟩ := x
  refine at_draw0 (.fl 0 (.fl 1 (.fl 2 (.fl 3 (.fl 4 (.fl 5 (.fl 6 (.fl 7 (.fl 9 (.fl 10 (.fl 11 (.ef 8 (.ef 12 (.fl 13 (.fl 14 .nil))))))))))))))) (by kernel_rfl) (by kernel_rfl) ?_
  refine wt_read rfl rfl rfl rfl (yl_fieldB rfl rfl Try.underlying45 rfl (by kernel_rfl) rfl) ?_
  refine wt_read rfl rfl rfl rfl (yl_load rfl rfl Try.underlying3 rfl (CellAt.bk 2 rfl rfl)) ?_
  refine wt_read rfl rfl rfl rfl (yl_move rfl rfl) ?_
  refine wt_read rfl rfl rfl rfl (yl_nilCheck rfl rfl) ?_
  refine wt_read rfl rfl rfl rfl (yl_fieldB rfl rfl Try.underlying42 rfl (by kernel_rfl) rfl) ?_
  refine wt_read rfl rfl rfl rfl (yl_load rfl rfl Try.underlying40 rfl (CellAt.bk 0 rfl rfl)) ?_
  refine wt_read rfl rfl rfl rfl (yl_len rfl rfl Try.underlying40) ?_
  refine wt_read rfl rfl rfl rfl (yl_add rfl rfl rfl (w64 (by omega) (by omega))) ?_
  refine wt_read rfl rfl rfl rfl (yl_fieldB rfl rfl Try.underlying45 rfl (by kernel_rfl) rfl) ?_
  refine wt_read rfl rfl rfl rfl (yl_load rfl rfl Try.underlying3 rfl (CellAt.bk 2 rfl rfl)) ?_
  refine wt_read rfl rfl rfl rfl (yl_quo rfl rfl rfl (by decide) (w64 hq.1 hq.2)) ?_
  refine wt_call rfl rfl rfl rfl (en_call rfl rfl) (mod_fn _ _ _ _ (by omega) (by omega)) ?_
  rintro _ _ ⟨rfl, rfl⟩
  refine ⟨⟨[], rfl⟩, ?_⟩
  refine wt_call rfl rfl rfl rfl (en_call rfl rfl) (mod_fn _ _ _ _ (by decide) (by decide)) ?_
  rintro _ _ ⟨rfl, rfl⟩
  refine ⟨⟨[], rfl⟩, ?_⟩
  refine wt_read rfl rfl rfl rfl (yl_sub rfl rfl rfl (w64 (by omega) (by omega))) ?_
  refine wt_read rfl rfl rfl rfl (yl_assign rfl rfl) ?_
  refine wt_nil ?_
  refine at_keep (Keep.cons 0 rfl (Keep.cons 1 rfl (Keep.cons 2 rfl (Keep.cons 5 rfl (Keep.cons 6 rfl (Keep.cons 7 rfl Keep.nil)))))) ?_
  refine at_seq ?_
  refine at_seq ?_
  refine at_heap (fun _ hw => hw.front1.front1) ?_
  refine at_heap (fun _ hw => Chn.closes (ms := s.q) (k := s.k) hw) ?_
  rw [hlq]
  rw [show md x.i ((s.p.length : Int) + 2) - md (x.i.tdiv 100) 2 = iv s x.i from rfl]
  refine at_region ?_
  refine wl_read rfl rfl rfl (yl_fieldB rfl rfl Try.underlying45 rfl (by kernel_rfl) rfl) ?_
  refine wl_read rfl rfl rfl (yl_load rfl rfl Try.underlying3 rfl (CellAt.bk 1 rfl rfl)) ?_
  refine wl_call rfl rfl rfl (en_call rfl rfl) (mod_fn _ _ _ _ (by decide) (by decide)) ?_
  rintro _ _ ⟨rfl, rfl⟩
  refine wl_nil ?_
  refine at_keep (Keep.cons 0 rfl (Keep.cons 1 rfl (Keep.cons 2 rfl (Keep.cons 5 rfl (Keep.cons 6 rfl (Keep.cons 7 rfl (Keep.cons 34 rfl Keep.nil))))))) ?_
  refine at_block ?_
  refine at_seq ?_
  refine at_region ?_
  refine wl_read rfl rfl rfl ((yp_eql rfl rfl rfl).2 (by omega)) ?_
  refine wl_read rfl rfl rfl (yl_assign rfl rfl) ?_
  refine wl_nil ?_
  refine at_keep (Keep.cons 0 rfl (Keep.cons 1 rfl (Keep.cons 2 rfl (Keep.cons 5 rfl (Keep.cons 6 rfl (Keep.cons 7 rfl (Keep.cons 34 rfl (Keep.cons 35 rfl Keep.nil)))))))) ?_
  refine at_false rfl ?_
  refine at_seq ?_
  refine at_seq ?_
  refine at_region ?_
  refine wl_read rfl rfl rfl ((yp_eql rfl rfl rfl).1 (by omega)) ?_
  refine wl_read rfl rfl rfl (yl_assign rfl rfl) ?_
  refine wl_nil ?_
  refine at_keep (Keep.cons 0 rfl (Keep.cons 1 rfl (Keep.cons 2 rfl (Keep.cons 5 rfl (Keep.cons 6 rfl (Keep.cons 7 rfl (Keep.cons 34 rfl (Keep.cons 35 rfl (Keep.cons 54 rfl Keep.nil))))))))) ?_
  refine at_true rfl ?_
  refine at_skip ?_
  refine at_true rfl ?_
  refine at_seq ?_
  refine at_draw0 (.fl 0 (.fl 1 (.fl 3 (.fl 4 (.ef 2 (.ef 5 (.fl 6 (.fl 7 .nil)))))))) (by kernel_rfl) (by kernel_rfl) ?_
  refine wt_read rfl rfl rfl rfl (yl_fieldB rfl rfl Try.underlying45 rfl (by kernel_rfl) rfl) ?_
  refine wt_read rfl rfl rfl rfl (yl_load rfl rfl Try.underlying3 rfl (CellAt.bk 1 rfl rfl)) ?_
  refine wt_read rfl rfl rfl rfl (yl_fieldB rfl rfl Try.underlying45 rfl (by kernel_rfl) rfl) ?_
  refine wt_read rfl rfl rfl rfl (yl_load rfl rfl Try.underlying3 rfl (CellAt.bk 1 rfl rfl)) ?_
  refine wt_call rfl rfl rfl rfl (en_call rfl rfl) (mod_fn _ _ _ _ (by decide) (by decide)) ?_
  rintro _ _ ⟨rfl, rfl⟩
  refine ⟨⟨[], rfl⟩, ?_⟩
  refine wt_call rfl rfl rfl rfl (en_call rfl rfl) (mod_fn _ _ _ _ (by decide) (by decide)) ?_
  rintro _ _ ⟨rfl, rfl⟩
  refine ⟨⟨[], rfl⟩, ?_⟩
  refine wt_read rfl rfl rfl rfl (yl_assign rfl rfl) ?_
  refine wt_read rfl rfl rfl rfl (yl_assign rfl rfl) ?_
  refine wt_nil ?_
  refine at_keep (Keep.cons 0 rfl (Keep.cons 1 rfl (Keep.cons 2 rfl (Keep.cons 5 rfl (Keep.cons 6 rfl (Keep.cons 7 rfl (Keep.cons 8 rfl (Keep.cons 9 rfl (Keep.cons 34 rfl (Keep.cons 35 rfl (Keep.cons 54 rfl Keep.nil))))))))))) ?_
  refine at_seq ?_
  refine at_heap (fun _ hw => hw.front3.front2.front2.front3) ?_
  refine at_draw2 (.fl 0 (.fl 1 (.fl 2 (.fl 3 (.fl 4 (.fl 6 (.fl 7 (.fl 8 (.fl 9 (.fl 10 (.ef 5 (.ef 11 (.fl 12 (.fl 13 .nil)))))))))))))) (by kernel_rfl) (by kernel_rfl) ?_
  refine wt_read rfl rfl rfl rfl (yl_move rfl rfl) ?_
  refine wt_read rfl rfl rfl rfl (yl_move rfl rfl) ?_
  refine wt_read rfl rfl rfl rfl (yl_move rfl rfl) ?_
  refine wt_read rfl rfl rfl rfl (yl_fieldB rfl rfl Try.underlying45 rfl (by kernel_rfl) rfl) ?_
  refine wt_read rfl rfl rfl rfl (yl_load rfl rfl Try.underlying27 rfl (CellAt.bk 0 rfl rfl)) ?_
  refine wt_read rfl rfl rfl rfl (yl_move rfl rfl) ?_
  refine wt_read rfl rfl rfl rfl (yl_move rfl rfl) ?_
  refine wt_read rfl rfl rfl rfl (yl_move rfl rfl) ?_
  refine wt_read rfl rfl rfl rfl (yl_fieldB rfl rfl Try.underlying45 rfl (by kernel_rfl) rfl) ?_
  refine wt_read rfl rfl rfl rfl (yl_load rfl rfl Try.underlying27 rfl (CellAt.bk 0 rfl rfl)) ?_
  refine wt_call rfl rfl rfl rfl (en_call rfl rfl) (send_bad s.p s.k g _ _ (md x.from_ 6) (md x.to_ 6) x.bs x.A x.c hok) ?_
  rintro _ _ ⟨rfl, rfl⟩
  refine ⟨⟨[_, _], rfl⟩, ?_⟩
  refine wt_heap (fun _ hw => hw.front1) ?_
  refine wt_call rfl rfl rfl rfl (en_call rfl rfl) (rsend_bad s.q s.k r _ _ (md x.from_ 6) (md x.to_ 6) x.bs x.A x.c hok) ?_
  rintro _ _ ⟨rfl, rfl⟩
  refine ⟨⟨[_, _], rfl⟩, ?_⟩
  refine wt_read rfl rfl rfl rfl ((yp_eql rfl rfl rfl).1 rfl) ?_
  refine wt_read rfl rfl rfl rfl (yl_assign rfl rfl) ?_
  refine wt_nil ?_
  refine at_keep (Keep.cons 0 rfl (Keep.cons 1 rfl (Keep.cons 2 rfl (Keep.cons 5 rfl (Keep.cons 6 rfl (Keep.cons 7 rfl (Keep.cons 8 rfl (Keep.cons 9 rfl (Keep.cons 34 rfl (Keep.cons 35 rfl (Keep.cons 54 rfl Keep.nil))))))))))) ?_
  refine at_retH (fun _ hw => hw.front3.front1.front2.drop3) Try.func18 (res1 rfl rfl) ?_
  exact ⟨rfl, s, hs.mono, fun _ h => h, rfl⟩
theorem step_send2ok (s : Sc) (n : Nat) (g r : Nat) (x : Raw) (b : World) (H : List Asr) (hs : SOk s n) (hn : n ≤ 100) (hR : Rd H x.A x.bs) (hi : I64 x.i) (hw : md x.what 8 = 2) (hok : okS (md x.from_ 6) (md x.to_ 6) x.bs) : Fn Try.prog 18 [.pointer (some ⟨g, 0, none⟩), .pointer (some ⟨r, 0, none⟩), .agg (Enc.cells x).toArray] b (Chn 58 g s.p s.k :: Chn 42 r s.q s.k :: Pool s.pl :: H) (fun v H' => v = .bool true ∧ ∃ s', SOk s' (n + 1) ∧ (∀ m, m ∈ s.pl → m ∈ s'.pl) ∧ H' = Chn 58 g s'.p s'.k :: Chn 42 r s'.q s'.k :: Pool s'.pl :: H) := by
  have hlen := hs.len
  have hlq := hs.lenq
  have hks := hs.ks
  have hkd := hs.kd
  have hkl := hs.kl
  have hkr := hs.kr
  have hm1 := md_bd x.i ((s.p.length : Int) + 2) (by omega)
  have hm1q := md_bd x.i ((s.q.length : Int) + 2) (by omega)
  have hm2 := md_bd (x.i.tdiv 100) 2 (by omega)
  have hq : -9223372036854775808 ≤ x.i.tdiv 100 ∧ x.i.tdiv 100 ≤ 9223372036854775807 := by
    obtain ⟨h1, h2⟩ := hi
    obtain ⟨h3, h4⟩ := tdiv_eq_if x.i 100 (by decide)
    rcases Int.le_total 0 x.i with h | h
    · have := h3 h; omega
    · have := h4 h; omega

  have hf6 := md_bd x.from_ 6 (by decide)
  have ht6 := md_bd x.to_ 6 (by decide)
  refine fn_of_at (by kernel_rfl) Try.func18 rfl Try.ntmps18 rfl rfl ?_
  refine at_seq ?_
  refine at_region ?_
  refine wl_eff rfl rfl rfl (ef_box rfl rfl rfl) ?_
  rintro _ _ ⟨g0, rfl, rfl⟩
  refine wl_read rfl rfl rfl (yl_assign rfl rfl) ?_
  refine wl_nil ?_
  refine at_keep (Keep.cons 0 rfl (Keep.cons 1 rfl (Keep.cons 2 rfl (Keep.cons 5 rfl (Keep.cons 6 rfl Keep.nil))))) ?_
  refine at_seq ?_
  refine at_heap (fun _ hw => hw.front2) ?_
  refine at_open (fun _ hw => Chn.opens hw) (fun x => ?_)
  obtain ⟨A9, c9⟩ := x
  refine at_draw0 (.fl 0 (.fl 1 (.fl 2 (.fl 3 (.fl 4 (.fl 5 (.fl 6 (.fl 7 (.fl 9 (.fl 10 (.fl 11 (.ef 8 (.ef 12 (.fl 13 (.fl 14 .nil))))))))))))))) (by kernel_rfl) (by kernel_rfl) ?_
  refine wt_read rfl rfl rfl rfl (yl_fieldB rfl rfl Try.underlying45 rfl (by kernel_rfl) rfl) ?_
  refine wt_read rfl rfl rfl rfl (yl_load rfl rfl Try.underlying3 rfl (CellAt.bk 2 rfl rfl)) ?_
  refine wt_read rfl rfl rfl rfl (yl_move rfl rfl) ?_
  refine wt_read rfl rfl rfl rfl (yl_nilCheck rfl rfl) ?_
  refine wt_read rfl rfl rfl rfl (yl_fieldB rfl rfl Try.underlying42 rfl (by kernel_rfl) rfl) ?_
  refine wt_read rfl rfl rfl rfl (yl_load rfl rfl Try.underlying40 rfl (CellAt.bk 0 rfl rfl)) ?_
  refine wt_read rfl rfl rfl rfl (yl_len rfl rfl Try.underlying40) ?_
  refine wt_read rfl rfl rfl rfl (yl_add rfl rfl rfl (w64 (by omega) (by omega))) ?_
  refine wt_read rfl rfl rfl rfl (yl_fieldB rfl rfl Try.underlying45 rfl (by kernel_rfl) rfl) ?_
  refine wt_read rfl rfl rfl rfl (yl_load rfl rfl Try.underlying3 rfl (CellAt.bk 2 rfl rfl)) ?_
  refine wt_read rfl rfl rfl rfl (yl_quo rfl rfl rfl (by decide) (w64 hq.1 hq.2)) ?_
  refine wt_call rfl rfl rfl rfl (en_call rfl rfl) (mod_fn _ _ _ _ (by omega) (by omega)) ?_
  rintro _ _ ⟨rfl, rfl⟩
  refine ⟨⟨[], rfl⟩, ?_⟩
  refine wt_call rfl rfl rfl rfl (en_call rfl rfl) (mod_fn _ _ _ _ (by decide) (by decide)) ?_
  rintro _ _ ⟨rfl, rfl⟩
  refine ⟨⟨[], rfl⟩, ?_⟩
  refine wt_read rfl rfl rfl rfl (yl_sub rfl rfl rfl (w64 (by omega) (by omega))) ?_
  refine wt_read rfl rfl rfl rfl (yl_assign rfl rfl) ?_
  refine wt_nil ?_
  refine at_keep (Keep.cons 0 rfl (Keep.cons 1 rfl (Keep.cons 2 rfl (Keep.cons 5 rfl (Keep.cons 6 rfl (Keep.cons 7 rfl Keep.nil)))))) ?_
  refine at_seq ?_
  refine at_seq ?_
  refine at_heap (fun _ hw => hw.front1.front1) ?_
  refine at_heap (fun _ hw => Chn.closes (ms := s.q) (k := s.k) hw) ?_
  rw [hlq]
  rw [show md x.i ((s.p.length : Int) + 2) - md (x.i.tdiv 100) 2 = iv s x.i from rfl]
  refine at_region ?_
  refine wl_read rfl rfl rfl (yl_fieldB rfl rfl Try.underlying45 rfl (by kernel_rfl) rfl) ?_
  refine wl_read rfl rfl rfl (yl_load rfl rfl Try.underlying3 rfl (CellAt.bk 1 rfl rfl)) ?_
  refine wl_call rfl rfl rfl (en_call rfl rfl) (mod_fn _ _ _ _ (by decide) (by decide)) ?_
  rintro _ _ ⟨rfl, rfl⟩
  refine wl_nil ?_
  refine at_keep (Keep.cons 0 rfl (Keep.cons 1 rfl (Keep.cons 2 rfl (Keep.cons 5 rfl (Keep.cons 6 rfl (Keep.cons 7 rfl (Keep.cons 34 rfl Keep.nil))))))) ?_
  refine at_block ?_
  refine at_seq ?_
  refine at_region ?_
  refine wl_read rfl rfl rfl ((yp_eql rfl rfl rfl).2 (by omega)) ?_
  refine wl_read rfl rfl rfl (yl_assign rfl rfl) ?_
  refine wl_nil ?_
  refine at_keep (Keep.cons 0 rfl (Keep.cons 1 rfl (Keep.cons 2 rfl (Keep.cons 5 rfl (Keep.cons 6 rfl (Keep.cons 7 rfl (Keep.cons 34 rfl (Keep.cons 35 rfl Keep.nil)))))))) ?_
  refine at_false rfl ?_
  refine at_seq ?_
  refine at_seq ?_
  refine at_region ?_
  refine wl_read rfl rfl rfl ((yp_eql rfl rfl rfl).2 (by omega)) ?_
  refine wl_read rfl rfl rfl (yl_assign rfl rfl) ?_
  refine wl_nil ?_
  refine at_keep (Keep.cons 0 rfl (Keep.cons 1 rfl (Keep.cons 2 rfl (Keep.cons 5 rfl (Keep.cons 6 rfl (Keep.cons 7 rfl (Keep.cons 34 rfl (Keep.cons 35 rfl (Keep.cons 54 rfl Keep.nil))))))))) ?_
  refine at_false rfl ?_
  refine at_seq ?_
  refine at_region ?_
  refine wl_read rfl rfl rfl ((yp_eql rfl rfl rfl).1 (by omega)) ?_
  refine wl_read rfl rfl rfl (yl_assign rfl rfl) ?_
  refine wl_nil ?_
  refine at_keep (Keep.cons 0 rfl (Keep.cons 1 rfl (Keep.cons 2 rfl (Keep.cons 5 rfl (Keep.cons 6 rfl (Keep.cons 7 rfl (Keep.cons 34 rfl (Keep.cons 35 rfl (Keep.cons 54 rfl Keep.nil))))))))) ?_
  refine at_true rfl ?_
  refine at_skip ?_
  refine at_true rfl ?_
  refine at_seq ?_
  refine at_draw0 (.fl 0 (.fl 1 (.fl 3 (.fl 4 (.ef 2 (.ef 5 (.fl 6 (.fl 7 .nil)))))))) (by kernel_rfl) (by kernel_rfl) ?_
  refine wt_read rfl rfl rfl rfl (yl_fieldB rfl rfl Try.underlying45 rfl (by kernel_rfl) rfl) ?_
  refine wt_read rfl rfl rfl rfl (yl_load rfl rfl Try.underlying3 rfl (CellAt.bk 1 rfl rfl)) ?_
  refine wt_read rfl rfl rfl rfl (yl_fieldB rfl rfl Try.underlying45 rfl (by kernel_rfl) rfl) ?_
  refine wt_read rfl rfl rfl rfl (yl_load rfl rfl Try.underlying3 rfl (CellAt.bk 1 rfl rfl)) ?_
  refine wt_call rfl rfl rfl rfl (en_call rfl rfl) (mod_fn _ _ _ _ (by decide) (by decide)) ?_
  rintro _ _ ⟨rfl, rfl⟩
  refine ⟨⟨[], rfl⟩, ?_⟩
  refine wt_call rfl rfl rfl rfl (en_call rfl rfl) (mod_fn _ _ _ _ (by decide) (by decide)) ?_
  rintro _ _ ⟨rfl, rfl⟩
  refine ⟨⟨[], rfl⟩, ?_⟩
  refine wt_read rfl rfl rfl rfl (yl_assign rfl rfl) ?_
  refine wt_read rfl rfl rfl rfl (yl_assign rfl rfl) ?_
  refine wt_nil ?_
  refine at_keep (Keep.cons 0 rfl (Keep.cons 1 rfl (Keep.cons 2 rfl (Keep.cons 5 rfl (Keep.cons 6 rfl (Keep.cons 7 rfl (Keep.cons 8 rfl (Keep.cons 9 rfl (Keep.cons 34 rfl (Keep.cons 35 rfl (Keep.cons 54 rfl Keep.nil))))))))))) ?_
  refine at_seq ?_
  refine at_heap (fun _ hw => hw.front3.front2.front2.front3) ?_
  refine at_draw2 (.fl 0 (.fl 1 (.fl 2 (.fl 3 (.fl 4 (.fl 6 (.fl 7 (.fl 8 (.fl 9 (.fl 10 (.ef 5 (.ef 11 (.fl 12 (.fl 13 .nil)))))))))))))) (by kernel_rfl) (by kernel_rfl) ?_
  refine wt_read rfl rfl rfl rfl (yl_move rfl rfl) ?_
  refine wt_read rfl rfl rfl rfl (yl_move rfl rfl) ?_
  refine wt_read rfl rfl rfl rfl (yl_move rfl rfl) ?_
  refine wt_read rfl rfl rfl rfl (yl_fieldB rfl rfl Try.underlying45 rfl (by kernel_rfl) rfl) ?_
  refine wt_read rfl rfl rfl rfl (yl_load rfl rfl Try.underlying27 rfl (CellAt.bk 0 rfl rfl)) ?_
  refine wt_read rfl rfl rfl rfl (yl_move rfl rfl) ?_
  refine wt_read rfl rfl rfl rfl (yl_move rfl rfl) ?_
  refine wt_read rfl rfl rfl rfl (yl_move rfl rfl) ?_
  refine wt_read rfl rfl rfl rfl (yl_fieldB rfl rfl Try.underlying45 rfl (by kernel_rfl) rfl) ?_
  refine wt_read rfl rfl rfl rfl (yl_load rfl rfl Try.underlying27 rfl (CellAt.bk 0 rfl rfl)) ?_
  refine wt_call rfl rfl rfl rfl (en_call rfl rfl) (send_fn s.p s.k g _ _ (md x.from_ 6) (md x.to_ 6) x.bs x.A x.c hok (by omega) (by omega) (((hR.cons _).cons _).cons _)) ?_
  rintro _ _ ⟨A1, c1, rfl, rfl⟩
  refine ⟨⟨[_, _, _], rfl⟩, ?_⟩
  refine wt_heap (fun _ hw => hw.front2) ?_
  refine wt_call rfl rfl rfl rfl (en_call rfl rfl) (rsend_fn s.q s.k r _ _ (md x.from_ 6) (md x.to_ 6) x.bs x.A x.c hok (by omega) (by omega) ((((hR.cons _).cons _).cons _).cons _)) ?_
  rintro _ _ ⟨A2, c2, rfl, rfl⟩
  refine ⟨⟨[_, _, _, _], rfl⟩, ?_⟩
  refine wt_read rfl rfl rfl rfl ((yp_eql rfl rfl rfl).1 rfl) ?_
  refine wt_read rfl rfl rfl rfl (yl_assign rfl rfl) ?_
  refine wt_nil ?_
  refine at_keep (Keep.cons 0 rfl (Keep.cons 1 rfl (Keep.cons 2 rfl (Keep.cons 5 rfl (Keep.cons 6 rfl (Keep.cons 7 rfl (Keep.cons 8 rfl (Keep.cons 9 rfl (Keep.cons 34 rfl (Keep.cons 35 rfl (Keep.cons 54 rfl Keep.nil))))))))))) ?_
  refine at_retH (fun _ hw => (hw.front1.front3.front2.front5.front4.drop5).poolIn.front1.poolIn.down2) Try.func18 (res1 rfl rfl) ?_
  exact ⟨rfl, ⟨s.p ++ [(⟨(md x.from_ 6), (md x.to_ 6), A1, c1, x.bs⟩ : Msg)], s.q ++ [(⟨(md x.from_ 6), (md x.to_ 6), A2, c2, x.bs⟩ : Msg)], { s.k with sent := s.k.sent + 1 }, Msg.mem (⟨(md x.from_ 6), (md x.to_ 6), A2, c2, x.bs⟩ : Msg) :: Msg.mem (⟨(md x.from_ 6), (md x.to_ 6), A1, c1, x.bs⟩ : Msg) :: s.pl⟩, hs.add (⟨(md x.from_ 6), (md x.to_ 6), A1, c1, x.bs⟩ : Msg) (⟨(md x.from_ 6), (md x.to_ 6), A2, c2, x.bs⟩ : Msg) rfl hok.2.2.2.2 _ (.inl rfl), fun _ h => List.mem_cons_of_mem _ (List.mem_cons_of_mem _ h), rfl⟩
theorem step_send2bad (s : Sc) (n : Nat) (g r : Nat) (x : Raw) (b : World) (H : List Asr) (hs : SOk s n) (hn : n ≤ 100) (hR : Rd H x.A x.bs) (hi : I64 x.i) (hw : md x.what 8 = 2) (hok : ¬ okS (md x.from_ 6) (md x.to_ 6) x.bs) : Fn Try.prog 18 [.pointer (some ⟨g, 0, none⟩), .pointer (some ⟨r, 0, none⟩), .agg (Enc.cells x).toArray] b (Chn 58 g s.p s.k :: Chn 42 r s.q s.k :: Pool s.pl :: H) (fun v H' => v = .bool true ∧ ∃ s', SOk s' (n + 1) ∧ (∀ m, m ∈ s.pl → m ∈ s'.pl) ∧ H' = Chn 58 g s'.p s'.k :: Chn 42 r s'.q s'.k :: Pool s'.pl :: H) := by
  have hlen := hs.len
  have hlq := hs.lenq
  have hks := hs.ks
  have hkd := hs.kd
  have hkl := hs.kl
  have hkr := hs.kr
  have hm1 := md_bd x.i ((s.p.length : Int) + 2) (by omega)
  have hm1q := md_bd x.i ((s.q.length : Int) + 2) (by omega)
  have hm2 := md_bd (x.i.tdiv 100) 2 (by omega)
  have hq : -9223372036854775808 ≤ x.i.tdiv 100 ∧ x.i.tdiv 100 ≤ 9223372036854775807 := by
    obtain ⟨h1, h2⟩ := hi
    obtain ⟨h3, h4⟩ := tdiv_eq_if x.i 100 (by decide)
    rcases Int.le_total 0 x.i with h | h
    · have := h3 h; omega
    · have := h4 h; omega

  have hf6 := md_bd x.from_ 6 (by decide)
  have ht6 := md_bd x.to_ 6 (by decide)
  refine fn_of_at (by kernel_rfl) Try.func18 rfl Try.ntmps18 rfl rfl ?_
  refine at_seq ?_
  refine at_region ?_
  refine wl_eff rfl rfl rfl (ef_box rfl rfl rfl) ?_
  rintro _ _ ⟨g0, rfl, rfl⟩
  refine wl_read rfl rfl rfl (yl_assign rfl rfl) ?_
  refine wl_nil ?_
  refine at_keep (Keep.cons 0 rfl (Keep.cons 1 rfl (Keep.cons 2 rfl (Keep.cons 5 rfl (Keep.cons 6 rfl Keep.nil))))) ?_
  refine at_seq ?_
  refine at_heap (fun _ hw => hw.front2) ?_
  refine at_open (fun _ hw => Chn.opens hw) (fun x => ?_)
  obtain ⟨A9, c9⟩ := x
  refine at_draw0 (.fl 0 (.fl 1 (.fl 2 (.fl 3 (.fl 4 (.fl 5 (.fl 6 (.fl 7 (.fl 9 (.fl 10 (.fl 11 (.ef 8 (.ef 12 (.fl 13 (.fl 14 .nil))))))))))))))) (by kernel_rfl) (by kernel_rfl) ?_
  refine wt_read rfl rfl rfl rfl (yl_fieldB rfl rfl Try.underlying45 rfl (by kernel_rfl) rfl) ?_
  refine wt_read rfl rfl rfl rfl (yl_load rfl rfl Try.underlying3 rfl (CellAt.bk 2 rfl rfl)) ?_
  refine wt_read rfl rfl rfl rfl (yl_move rfl rfl) ?_
  refine wt_read rfl rfl rfl rfl (yl_nilCheck rfl rfl) ?_
  refine wt_read rfl rfl rfl rfl (yl_fieldB rfl rfl Try.underlying42 rfl (by kernel_rfl) rfl) ?_
  refine wt_read rfl rfl rfl rfl (yl_load rfl rfl Try.underlying40 rfl (CellAt.bk 0 rfl rfl)) ?_
  refine wt_read rfl rfl rfl rfl (yl_len rfl rfl Try.underlying40) ?_
  refine wt_read rfl rfl rfl rfl (yl_add rfl rfl rfl (w64 (by omega) (by omega))) ?_
  refine wt_read rfl rfl rfl rfl (yl_fieldB rfl rfl Try.underlying45 rfl (by kernel_rfl) rfl) ?_
  refine wt_read rfl rfl rfl rfl (yl_load rfl rfl Try.underlying3 rfl (CellAt.bk 2 rfl rfl)) ?_
  refine wt_read rfl rfl rfl rfl (yl_quo rfl rfl rfl (by decide) (w64 hq.1 hq.2)) ?_
  refine wt_call rfl rfl rfl rfl (en_call rfl rfl) (mod_fn _ _ _ _ (by omega) (by omega)) ?_
  rintro _ _ ⟨rfl, rfl⟩
  refine ⟨⟨[], rfl⟩, ?_⟩
  refine wt_call rfl rfl rfl rfl (en_call rfl rfl) (mod_fn _ _ _ _ (by decide) (by decide)) ?_
  rintro _ _ ⟨rfl, rfl⟩
  refine ⟨⟨[], rfl⟩, ?_⟩
  refine wt_read rfl rfl rfl rfl (yl_sub rfl rfl rfl (w64 (by omega) (by omega))) ?_
  refine wt_read rfl rfl rfl rfl (yl_assign rfl rfl) ?_
  refine wt_nil ?_
  refine at_keep (Keep.cons 0 rfl (Keep.cons 1 rfl (Keep.cons 2 rfl (Keep.cons 5 rfl (Keep.cons 6 rfl (Keep.cons 7 rfl Keep.nil)))))) ?_
  refine at_seq ?_
  refine at_seq ?_
  refine at_heap (fun _ hw => hw.front1.front1) ?_
  refine at_heap (fun _ hw => Chn.closes (ms := s.q) (k := s.k) hw) ?_
  rw [hlq]
  rw [show md x.i ((s.p.length : Int) + 2) - md (x.i.tdiv 100) 2 = iv s x.i from rfl]
  refine at_region ?_
  refine wl_read rfl rfl rfl (yl_fieldB rfl rfl Try.underlying45 rfl (by kernel_rfl) rfl) ?_
  refine wl_read rfl rfl rfl (yl_load rfl rfl Try.underlying3 rfl (CellAt.bk 1 rfl rfl)) ?_
  refine wl_call rfl rfl rfl (en_call rfl rfl) (mod_fn _ _ _ _ (by decide) (by decide)) ?_
  rintro _ _ ⟨rfl, rfl⟩
  refine wl_nil ?_
  refine at_keep (Keep.cons 0 rfl (Keep.cons 1 rfl (Keep.cons 2 rfl (Keep.cons 5 rfl (Keep.cons 6 rfl (Keep.cons 7 rfl (Keep.cons 34 rfl Keep.nil))))))) ?_
  refine at_block ?_
  refine at_seq ?_
  refine at_region ?_
  refine wl_read rfl rfl rfl ((yp_eql rfl rfl rfl).2 (by omega)) ?_
  refine wl_read rfl rfl rfl (yl_assign rfl rfl) ?_
  refine wl_nil ?_
  refine at_keep (Keep.cons 0 rfl (Keep.cons 1 rfl (Keep.cons 2 rfl (Keep.cons 5 rfl (Keep.cons 6 rfl (Keep.cons 7 rfl (Keep.cons 34 rfl (Keep.cons 35 rfl Keep.nil)))))))) ?_
  refine at_false rfl ?_
  refine at_seq ?_
  refine at_seq ?_
  refine at_region ?_
  refine wl_read rfl rfl rfl ((yp_eql rfl rfl rfl).2 (by omega)) ?_
  refine wl_read rfl rfl rfl (yl_assign rfl rfl) ?_
  refine wl_nil ?_
  refine at_keep (Keep.cons 0 rfl (Keep.cons 1 rfl (Keep.cons 2 rfl (Keep.cons 5 rfl (Keep.cons 6 rfl (Keep.cons 7 rfl (Keep.cons 34 rfl (Keep.cons 35 rfl (Keep.cons 54 rfl Keep.nil))))))))) ?_
  refine at_false rfl ?_
  refine at_seq ?_
  refine at_region ?_
  refine wl_read rfl rfl rfl ((yp_eql rfl rfl rfl).1 (by omega)) ?_
  refine wl_read rfl rfl rfl (yl_assign rfl rfl) ?_
  refine wl_nil ?_
  refine at_keep (Keep.cons 0 rfl (Keep.cons 1 rfl (Keep.cons 2 rfl (Keep.cons 5 rfl (Keep.cons 6 rfl (Keep.cons 7 rfl (Keep.cons 34 rfl (Keep.cons 35 rfl (Keep.cons 54 rfl Keep.nil))))))))) ?_
  refine at_true rfl ?_
  refine at_skip ?_
  refine at_true rfl ?_
  refine at_seq ?_
  refine at_draw0 (.fl 0 (.fl 1 (.fl 3 (.fl 4 (.ef 2 (.ef 5 (.fl 6 (.fl 7 .nil)))))))) (by kernel_rfl) (by kernel_rfl) ?_
  refine wt_read rfl rfl rfl rfl (yl_fieldB rfl rfl Try.underlying45 rfl (by kernel_rfl) rfl) ?_
  refine wt_read rfl rfl rfl rfl (yl_load rfl rfl Try.underlying3 rfl (CellAt.bk 1 rfl rfl)) ?_
  refine wt_read rfl rfl rfl rfl (yl_fieldB rfl rfl Try.underlying45 rfl (by kernel_rfl) rfl) ?_
  refine wt_read rfl rfl rfl rfl (yl_load rfl rfl Try.underlying3 rfl (CellAt.bk 1 rfl rfl)) ?_
  refine wt_call rfl rfl rfl rfl (en_call rfl rfl) (mod_fn _ _ _ _ (by decide) (by decide)) ?_
  rintro _ _ ⟨rfl, rfl⟩
  refine ⟨⟨[], rfl⟩, ?_⟩
  refine wt_call rfl rfl rfl rfl (en_call rfl rfl) (mod_fn _ _ _ _ (by decide) (by decide)) ?_
  rintro _ _ ⟨rfl, rfl⟩
  refine ⟨⟨[], rfl⟩, ?_⟩
  refine wt_read rfl rfl rfl rfl (yl_assign rfl rfl) ?_
  refine wt_read rfl rfl rfl rfl (yl_assign rfl rfl) ?_
  refine wt_nil ?_
  refine at_keep (Keep.cons 0 rfl (Keep.cons 1 rfl (Keep.cons 2 rfl (Keep.cons 5 rfl (Keep.cons 6 rfl (Keep.cons 7 rfl (Keep.cons 8 rfl (Keep.cons 9 rfl (Keep.cons 34 rfl (Keep.cons 35 rfl (Keep.cons 54 rfl Keep.nil))))))))))) ?_
  refine at_seq ?_
  refine at_heap (fun _ hw => hw.front3.front2.front2.front3) ?_
  refine at_draw2 (.fl 0 (.fl 1 (.fl 2 (.fl 3 (.fl 4 (.fl 6 (.fl 7 (.fl 8 (.fl 9 (.fl 10 (.ef 5 (.ef 11 (.fl 12 (.fl 13 .nil)))))))))))))) (by kernel_rfl) (by kernel_rfl) ?_
  refine wt_read rfl rfl rfl rfl (yl_move rfl rfl) ?_
  refine wt_read rfl rfl rfl rfl (yl_move rfl rfl) ?_
  refine wt_read rfl rfl rfl rfl (yl_move rfl rfl) ?_
  refine wt_read rfl rfl rfl rfl (yl_fieldB rfl rfl Try.underlying45 rfl (by kernel_rfl) rfl) ?_
  refine wt_read rfl rfl rfl rfl (yl_load rfl rfl Try.underlying27 rfl (CellAt.bk 0 rfl rfl)) ?_
  refine wt_read rfl rfl rfl rfl (yl_move rfl rfl) ?_
  refine wt_read rfl rfl rfl rfl (yl_move rfl rfl) ?_
  refine wt_read rfl rfl rfl rfl (yl_move rfl rfl) ?_
  refine wt_read rfl rfl rfl rfl (yl_fieldB rfl rfl Try.underlying45 rfl (by kernel_rfl) rfl) ?_
  refine wt_read rfl rfl rfl rfl (yl_load rfl rfl Try.underlying27 rfl (CellAt.bk 0 rfl rfl)) ?_
  refine wt_call rfl rfl rfl rfl (en_call rfl rfl) (send_bad s.p s.k g _ _ (md x.from_ 6) (md x.to_ 6) x.bs x.A x.c hok) ?_
  rintro _ _ ⟨rfl, rfl⟩
  refine ⟨⟨[_, _], rfl⟩, ?_⟩
  refine wt_heap (fun _ hw => hw.front1) ?_
  refine wt_call rfl rfl rfl rfl (en_call rfl rfl) (rsend_bad s.q s.k r _ _ (md x.from_ 6) (md x.to_ 6) x.bs x.A x.c hok) ?_
  rintro _ _ ⟨rfl, rfl⟩
  refine ⟨⟨[_, _], rfl⟩, ?_⟩
  refine wt_read rfl rfl rfl rfl ((yp_eql rfl rfl rfl).1 rfl) ?_
  refine wt_read rfl rfl rfl rfl (yl_assign rfl rfl) ?_
  refine wt_nil ?_
  refine at_keep (Keep.cons 0 rfl (Keep.cons 1 rfl (Keep.cons 2 rfl (Keep.cons 5 rfl (Keep.cons 6 rfl (Keep.cons 7 rfl (Keep.cons 8 rfl (Keep.cons 9 rfl (Keep.cons 34 rfl (Keep.cons 35 rfl (Keep.cons 54 rfl Keep.nil))))))))))) ?_
  refine at_retH (fun _ hw => hw.front3.front1.front2.drop3) Try.func18 (res1 rfl rfl) ?_
  exact ⟨rfl, s, hs.mono, fun _ h => h, rfl⟩
theorem step_send3ok (s : Sc) (n : Nat) (g r : Nat) (x : Raw) (b : World) (H : List Asr) (hs : SOk s n) (hn : n ≤ 100) (hR : Rd H x.A x.bs) (hi : I64 x.i) (hw : md x.what 8 = 3) (hok : okS (md x.from_ 6) (md x.to_ 6) x.bs) : Fn Try.prog 18 [.pointer (some ⟨g, 0, none⟩), .pointer (some ⟨r, 0, none⟩), .agg (Enc.cells x).toArray] b (Chn 58 g s.p s.k :: Chn 42 r s.q s.k :: Pool s.pl :: H) (fun v H' => v = .bool true ∧ ∃ s', SOk s' (n + 1) ∧ (∀ m, m ∈ s.pl → m ∈ s'.pl) ∧ H' = Chn 58 g s'.p s'.k :: Chn 42 r s'.q s'.k :: Pool s'.pl :: H) := by
  have hlen := hs.len
  have hlq := hs.lenq
  have hks := hs.ks
  have hkd := hs.kd
  have hkl := hs.kl
  have hkr := hs.kr
  have hm1 := md_bd x.i ((s.p.length : Int) + 2) (by omega)
  have hm1q := md_bd x.i ((s.q.length : Int) + 2) (by omega)
  have hm2 := md_bd (x.i.tdiv 100) 2 (by omega)
  have hq : -9223372036854775808 ≤ x.i.tdiv 100 ∧ x.i.tdiv 100 ≤ 9223372036854775807 := by
    obtain ⟨h1, h2⟩ := hi
    obtain ⟨h3, h4⟩ := tdiv_eq_if x.i 100 (by decide)
    rcases Int.le_total 0 x.i with h | h
    · have := h3 h; omega
    · have := h4 h; omega

  have hf6 := md_bd x.from_ 6 (by decide)
  have ht6 := md_bd x.to_ 6 (by decide)
  refine fn_of_at (by kernel_rfl) Try.func18 rfl Try.ntmps18 rfl rfl ?_
  refine at_seq ?_
  refine at_region ?_
  refine wl_eff rfl rfl rfl (ef_box rfl rfl rfl) ?_
  rintro _ _ ⟨g0, rfl, rfl⟩
  refine wl_read rfl rfl rfl (yl_assign rfl rfl) ?_
  refine wl_nil ?_
  refine at_keep (Keep.cons 0 rfl (Keep.cons 1 rfl (Keep.cons 2 rfl (Keep.cons 5 rfl (Keep.cons 6 rfl Keep.nil))))) ?_
  refine at_seq ?_
  refine at_heap (fun _ hw => hw.front2) ?_
  refine at_open (fun _ hw => Chn.opens hw) (fun x => ?_)
  obtain ⟨A9, c9⟩ := x
  refine at_draw0 (.fl 0 (.fl 1 (.fl 2 (.fl 3 (.fl 4 (.fl 5 (.fl 6 (.fl 7 (.fl 9 (.fl 10 (.fl 11 (.ef 8 (.ef 12 (.fl 13 (.fl 14 .nil))))))))))))))) (by kernel_rfl) (by kernel_rfl) ?_
  refine wt_read rfl rfl rfl rfl (yl_fieldB rfl rfl Try.underlying45 rfl (by kernel_rfl) rfl) ?_
  refine wt_read rfl rfl rfl rfl (yl_load rfl rfl Try.underlying3 rfl (CellAt.bk 2 rfl rfl)) ?_
  refine wt_read rfl rfl rfl rfl (yl_move rfl rfl) ?_
  refine wt_read rfl rfl rfl rfl (yl_nilCheck rfl rfl) ?_
  refine wt_read rfl rfl rfl rfl (yl_fieldB rfl rfl Try.underlying42 rfl (by kernel_rfl) rfl) ?_
  refine wt_read rfl rfl rfl rfl (yl_load rfl rfl Try.underlying40 rfl (CellAt.bk 0 rfl rfl)) ?_
  refine wt_read rfl rfl rfl rfl (yl_len rfl rfl Try.underlying40) ?_
  refine wt_read rfl rfl rfl rfl (yl_add rfl rfl rfl (w64 (by omega) (by omega))) ?_
  refine wt_read rfl rfl rfl rfl (yl_fieldB rfl rfl Try.underlying45 rfl (by kernel_rfl) rfl) ?_
  refine wt_read rfl rfl rfl rfl (yl_load rfl rfl Try.underlying3 rfl (CellAt.bk 2 rfl rfl)) ?_
  refine wt_read rfl rfl rfl rfl (yl_quo rfl rfl rfl (by decide) (w64 hq.1 hq.2)) ?_
  refine wt_call rfl rfl rfl rfl (en_call rfl rfl) (mod_fn _ _ _ _ (by omega) (by omega)) ?_
  rintro _ _ ⟨rfl, rfl⟩
  refine ⟨⟨[], rfl⟩, ?_⟩
  refine wt_call rfl rfl rfl rfl (en_call rfl rfl) (mod_fn _ _ _ _ (by decide) (by decide)) ?_
  rintro _ _ ⟨rfl, rfl⟩
  refine ⟨⟨[], rfl⟩, ?_⟩
  refine wt_read rfl rfl rfl rfl (yl_sub rfl rfl rfl (w64 (by omega) (by omega))) ?_
  refine wt_read rfl rfl rfl rfl (yl_assign rfl rfl) ?_
  refine wt_nil ?_
  refine at_keep (Keep.cons 0 rfl (Keep.cons 1 rfl (Keep.cons 2 rfl (Keep.cons 5 rfl (Keep.cons 6 rfl (Keep.cons 7 rfl Keep.nil)))))) ?_
  refine at_seq ?_
  refine at_seq ?_
  refine at_heap (fun _ hw => hw.front1.front1) ?_
  refine at_heap (fun _ hw => Chn.closes (ms := s.q) (k := s.k) hw) ?_
  rw [hlq]
  rw [show md x.i ((s.p.length : Int) + 2) - md (x.i.tdiv 100) 2 = iv s x.i from rfl]
  refine at_region ?_
  refine wl_read rfl rfl rfl (yl_fieldB rfl rfl Try.underlying45 rfl (by kernel_rfl) rfl) ?_
  refine wl_read rfl rfl rfl (yl_load rfl rfl Try.underlying3 rfl (CellAt.bk 1 rfl rfl)) ?_
  refine wl_call rfl rfl rfl (en_call rfl rfl) (mod_fn _ _ _ _ (by decide) (by decide)) ?_
  rintro _ _ ⟨rfl, rfl⟩
  refine wl_nil ?_
  refine at_keep (Keep.cons 0 rfl (Keep.cons 1 rfl (Keep.cons 2 rfl (Keep.cons 5 rfl (Keep.cons 6 rfl (Keep.cons 7 rfl (Keep.cons 34 rfl Keep.nil))))))) ?_
  refine at_block ?_
  refine at_seq ?_
  refine at_region ?_
  refine wl_read rfl rfl rfl ((yp_eql rfl rfl rfl).2 (by omega)) ?_
  refine wl_read rfl rfl rfl (yl_assign rfl rfl) ?_
  refine wl_nil ?_
  refine at_keep (Keep.cons 0 rfl (Keep.cons 1 rfl (Keep.cons 2 rfl (Keep.cons 5 rfl (Keep.cons 6 rfl (Keep.cons 7 rfl (Keep.cons 34 rfl (Keep.cons 35 rfl Keep.nil)))))))) ?_
  refine at_false rfl ?_
  refine at_seq ?_
  refine at_seq ?_
  refine at_region ?_
  refine wl_read rfl rfl rfl ((yp_eql rfl rfl rfl).2 (by omega)) ?_
  refine wl_read rfl rfl rfl (yl_assign rfl rfl) ?_
  refine wl_nil ?_
  refine at_keep (Keep.cons 0 rfl (Keep.cons 1 rfl (Keep.cons 2 rfl (Keep.cons 5 rfl (Keep.cons 6 rfl (Keep.cons 7 rfl (Keep.cons 34 rfl (Keep.cons 35 rfl (Keep.cons 54 rfl Keep.nil))))))))) ?_
  refine at_false rfl ?_
  refine at_seq ?_
  refine at_region ?_
  refine wl_read rfl rfl rfl ((yp_eql rfl rfl rfl).2 (by omega)) ?_
  refine wl_read rfl rfl rfl (yl_assign rfl rfl) ?_
  refine wl_nil ?_
  refine at_keep (Keep.cons 0 rfl (Keep.cons 1 rfl (Keep.cons 2 rfl (Keep.cons 5 rfl (Keep.cons 6 rfl (Keep.cons 7 rfl (Keep.cons 34 rfl (Keep.cons 35 rfl (Keep.cons 54 rfl Keep.nil))))))))) ?_
  refine at_false rfl ?_
  refine at_region ?_
  refine wl_read rfl rfl rfl ((yp_eql rfl rfl rfl).1 (by omega)) ?_
  refine wl_read rfl rfl rfl (yl_assign rfl rfl) ?_
  refine wl_nil ?_
  refine at_keep (Keep.cons 0 rfl (Keep.cons 1 rfl (Keep.cons 2 rfl (Keep.cons 5 rfl (Keep.cons 6 rfl (Keep.cons 7 rfl (Keep.cons 34 rfl (Keep.cons 35 rfl (Keep.cons 54 rfl Keep.nil))))))))) ?_
  refine at_true rfl ?_
  refine at_seq ?_
  refine at_draw0 (.fl 0 (.fl 1 (.fl 3 (.fl 4 (.ef 2 (.ef 5 (.fl 6 (.fl 7 .nil)))))))) (by kernel_rfl) (by kernel_rfl) ?_
  refine wt_read rfl rfl rfl rfl (yl_fieldB rfl rfl Try.underlying45 rfl (by kernel_rfl) rfl) ?_
  refine wt_read rfl rfl rfl rfl (yl_load rfl rfl Try.underlying3 rfl (CellAt.bk 1 rfl rfl)) ?_
  refine wt_read rfl rfl rfl rfl (yl_fieldB rfl rfl Try.underlying45 rfl (by kernel_rfl) rfl) ?_
  refine wt_read rfl rfl rfl rfl (yl_load rfl rfl Try.underlying3 rfl (CellAt.bk 1 rfl rfl)) ?_
  refine wt_call rfl rfl rfl rfl (en_call rfl rfl) (mod_fn _ _ _ _ (by decide) (by decide)) ?_
  rintro _ _ ⟨rfl, rfl⟩
  refine ⟨⟨[], rfl⟩, ?_⟩
  refine wt_call rfl rfl rfl rfl (en_call rfl rfl) (mod_fn _ _ _ _ (by decide) (by decide)) ?_
  rintro _ _ ⟨rfl, rfl⟩
  refine ⟨⟨[], rfl⟩, ?_⟩
  refine wt_read rfl rfl rfl rfl (yl_assign rfl rfl) ?_
  refine wt_read rfl rfl rfl rfl (yl_assign rfl rfl) ?_
  refine wt_nil ?_
  refine at_keep (Keep.cons 0 rfl (Keep.cons 1 rfl (Keep.cons 2 rfl (Keep.cons 5 rfl (Keep.cons 6 rfl (Keep.cons 7 rfl (Keep.cons 8 rfl (Keep.cons 9 rfl (Keep.cons 34 rfl (Keep.cons 35 rfl (Keep.cons 54 rfl Keep.nil))))))))))) ?_
  refine at_seq ?_
  refine at_heap (fun _ hw => hw.front3.front2.front2.front3) ?_
  refine at_draw2 (.fl 0 (.fl 1 (.fl 2 (.fl 3 (.fl 4 (.fl 6 (.fl 7 (.fl 8 (.fl 9 (.fl 10 (.ef 5 (.ef 11 (.fl 12 (.fl 13 .nil)))))))))))))) (by kernel_rfl) (by kernel_rfl) ?_
  refine wt_read rfl rfl rfl rfl (yl_move rfl rfl) ?_
  refine wt_read rfl rfl rfl rfl (yl_move rfl rfl) ?_
  refine wt_read rfl rfl rfl rfl (yl_move rfl rfl) ?_
  refine wt_read rfl rfl rfl rfl (yl_fieldB rfl rfl Try.underlying45 rfl (by kernel_rfl) rfl) ?_
  refine wt_read rfl rfl rfl rfl (yl_load rfl rfl Try.underlying27 rfl (CellAt.bk 0 rfl rfl)) ?_
  refine wt_read rfl rfl rfl rfl (yl_move rfl rfl) ?_
  refine wt_read rfl rfl rfl rfl (yl_move rfl rfl) ?_
  refine wt_read rfl rfl rfl rfl (yl_move rfl rfl) ?_
  refine wt_read rfl rfl rfl rfl (yl_fieldB rfl rfl Try.underlying45 rfl (by kernel_rfl) rfl) ?_
  refine wt_read rfl rfl rfl rfl (yl_load rfl rfl Try.underlying27 rfl (CellAt.bk 0 rfl rfl)) ?_
  refine wt_call rfl rfl rfl rfl (en_call rfl rfl) (send_fn s.p s.k g _ _ (md x.from_ 6) (md x.to_ 6) x.bs x.A x.c hok (by omega) (by omega) (((hR.cons _).cons _).cons _)) ?_
  rintro _ _ ⟨A1, c1, rfl, rfl⟩
  refine ⟨⟨[_, _, _], rfl⟩, ?_⟩
  refine wt_heap (fun _ hw => hw.front2) ?_
  refine wt_call rfl rfl rfl rfl (en_call rfl rfl) (rsend_fn s.q s.k r _ _ (md x.from_ 6) (md x.to_ 6) x.bs x.A x.c hok (by omega) (by omega) ((((hR.cons _).cons _).cons _).cons _)) ?_
  rintro _ _ ⟨A2, c2, rfl, rfl⟩
  refine ⟨⟨[_, _, _, _], rfl⟩, ?_⟩
  refine wt_read rfl rfl rfl rfl ((yp_eql rfl rfl rfl).1 rfl) ?_
  refine wt_read rfl rfl rfl rfl (yl_assign rfl rfl) ?_
  refine wt_nil ?_
  refine at_keep (Keep.cons 0 rfl (Keep.cons 1 rfl (Keep.cons 2 rfl (Keep.cons 5 rfl (Keep.cons 6 rfl (Keep.cons 7 rfl (Keep.cons 8 rfl (Keep.cons 9 rfl (Keep.cons 34 rfl (Keep.cons 35 rfl (Keep.cons 54 rfl Keep.nil))))))))))) ?_
  refine at_retH (fun _ hw => (hw.front1.front3.front2.front5.front4.drop5).poolIn.front1.poolIn.down2) Try.func18 (res1 rfl rfl) ?_
  exact ⟨rfl, ⟨s.p ++ [(⟨(md x.from_ 6), (md x.to_ 6), A1, c1, x.bs⟩ : Msg)], s.q ++ [(⟨(md x.from_ 6), (md x.to_ 6), A2, c2, x.bs⟩ : Msg)], { s.k with sent := s.k.sent + 1 }, Msg.mem (⟨(md x.from_ 6), (md x.to_ 6), A2, c2, x.bs⟩ : Msg) :: Msg.mem (⟨(md x.from_ 6), (md x.to_ 6), A1, c1, x.bs⟩ : Msg) :: s.pl⟩, hs.add (⟨(md x.from_ 6), (md x.to_ 6), A1, c1, x.bs⟩ : Msg) (⟨(md x.from_ 6), (md x.to_ 6), A2, c2, x.bs⟩ : Msg) rfl hok.2.2.2.2 _ (.inl rfl), fun _ h => List.mem_cons_of_mem _ (List.mem_cons_of_mem _ h), rfl⟩
theorem step_send3bad (s : Sc) (n : Nat) (g r : Nat) (x : Raw) (b : World) (H : List Asr) (hs : SOk s n) (hn : n ≤ 100) (hR : Rd H x.A x.bs) (hi : I64 x.i) (hw : md x.what 8 = 3) (hok : ¬ okS (md x.from_ 6) (md x.to_ 6) x.bs) : Fn Try.prog 18 [.pointer (some ⟨g, 0, none⟩), .pointer (some ⟨r, 0, none⟩), .agg (Enc.cells x).toArray] b (Chn 58 g s.p s.k :: Chn 42 r s.q s.k :: Pool s.pl :: H) (fun v H' => v = .bool true ∧ ∃ s', SOk s' (n + 1) ∧ (∀ m, m ∈ s.pl → m ∈ s'.pl) ∧ H' = Chn 58 g s'.p s'.k :: Chn 42 r s'.q s'.k :: Pool s'.pl :: H) := by
  have hlen := hs.len
  have hlq := hs.lenq
  have hks := hs.ks
  have hkd := hs.kd
  have hkl := hs.kl
  have hkr := hs.kr
  have hm1 := md_bd x.i ((s.p.length : Int) + 2) (by omega)
  have hm1q := md_bd x.i ((s.q.length : Int) + 2) (by omega)
  have hm2 := md_bd (x.i.tdiv 100) 2 (by omega)
  have hq : -9223372036854775808 ≤ x.i.tdiv 100 ∧ x.i.tdiv 100 ≤ 9223372036854775807 := by
    obtain ⟨h1, h2⟩ := hi
    obtain ⟨h3, h4⟩ := tdiv_eq_if x.i 100 (by decide)
    rcases Int.le_total 0 x.i with h | h
    · have := h3 h; omega
    · have := h4 h; omega

  have hf6 := md_bd x.from_ 6 (by decide)
  have ht6 := md_bd x.to_ 6 (by decide)
  refine fn_of_at (by kernel_rfl) Try.func18 rfl Try.ntmps18 rfl rfl ?_
  refine at_seq ?_
  refine at_region ?_
  refine wl_eff rfl rfl rfl (ef_box rfl rfl rfl) ?_
  rintro _ _ ⟨g0, rfl, rfl⟩
  refine wl_read rfl rfl rfl (yl_assign rfl rfl) ?_
  refine wl_nil ?_
  refine at_keep (Keep.cons 0 rfl (Keep.cons 1 rfl (Keep.cons 2 rfl (Keep.cons 5 rfl (Keep.cons 6 rfl Keep.nil))))) ?_
  refine at_seq ?_
  refine at_heap (fun _ hw => hw.front2) ?_
  refine at_open (fun _ hw => Chn.opens hw) (fun x => ?_)
  obtain ⟨A9, c9⟩ := x
  refine at_draw0 (.fl 0 (.fl 1 (.fl 2 (.fl 3 (.fl 4 (.fl 5 (.fl 6 (.fl 7 (.fl 9 (.fl 10 (.fl 11 (.ef 8 (.ef 12 (.fl 13 (.fl 14 .nil))))))))))))))) (by kernel_rfl) (by kernel_rfl) ?_
  refine wt_read rfl rfl rfl rfl (yl_fieldB rfl rfl Try.underlying45 rfl (by kernel_rfl) rfl) ?_
  refine wt_read rfl rfl rfl rfl (yl_load rfl rfl Try.underlying3 rfl (CellAt.bk 2 rfl rfl)) ?_
  refine wt_read rfl rfl rfl rfl (yl_move rfl rfl) ?_
  refine wt_read rfl rfl rfl rfl (yl_nilCheck rfl rfl) ?_
  refine wt_read rfl rfl rfl rfl (yl_fieldB rfl rfl Try.underlying42 rfl (by kernel_rfl) rfl) ?_
  refine wt_read rfl rfl rfl rfl (yl_load rfl rfl Try.underlying40 rfl (CellAt.bk 0 rfl rfl)) ?_
  refine wt_read rfl rfl rfl rfl (yl_len rfl rfl Try.underlying40) ?_
  refine wt_read rfl rfl rfl rfl (yl_add rfl rfl rfl (w64 (by omega) (by omega))) ?_
  refine wt_read rfl rfl rfl rfl (yl_fieldB rfl rfl Try.underlying45 rfl (by kernel_rfl) rfl) ?_
  refine wt_read rfl rfl rfl rfl (yl_load rfl rfl Try.underlying3 rfl (CellAt.bk 2 rfl rfl)) ?_
  refine wt_read rfl rfl rfl rfl (yl_quo rfl rfl rfl (by decide) (w64 hq.1 hq.2)) ?_
  refine wt_call rfl rfl rfl rfl (en_call rfl rfl) (mod_fn _ _ _ _ (by omega) (by omega)) ?_
  rintro _ _ ⟨rfl, rfl⟩
  refine ⟨⟨[], rfl⟩, ?_⟩
  refine wt_call rfl rfl rfl rfl (en_call rfl rfl) (mod_fn _ _ _ _ (by decide) (by decide)) ?_
  rintro _ _ ⟨rfl, rfl⟩
  refine ⟨⟨[], rfl⟩, ?_⟩
  refine wt_read rfl rfl rfl rfl (yl_sub rfl rfl rfl (w64 (by omega) (by omega))) ?_
  refine wt_read rfl rfl rfl rfl (yl_assign rfl rfl) ?_
  refine wt_nil ?_
  refine at_keep (Keep.cons 0 rfl (Keep.cons 1 rfl (Keep.cons 2 rfl (Keep.cons 5 rfl (Keep.cons 6 rfl (Keep.cons 7 rfl Keep.nil)))))) ?_
  refine at_seq ?_
  refine at_seq ?_
  refine at_heap (fun _ hw => hw.front1.front1) ?_
  refine at_heap (fun _ hw => Chn.closes (ms := s.q) (k := s.k) hw) ?_
  rw [hlq]
  rw [show md x.i ((s.p.length : Int) + 2) - md (x.i.tdiv 100) 2 = iv s x.i from rfl]
  refine at_region ?_
  refine wl_read rfl rfl rfl (yl_fieldB rfl rfl Try.underlying45 rfl (by kernel_rfl) rfl) ?_
  refine wl_read rfl rfl rfl (yl_load rfl rfl Try.underlying3 rfl (CellAt.bk 1 rfl rfl)) ?_
  refine wl_call rfl rfl rfl (en_call rfl rfl) (mod_fn _ _ _ _ (by decide) (by decide)) ?_
  rintro _ _ ⟨rfl, rfl⟩
  refine wl_nil ?_
  refine at_keep (Keep.cons 0 rfl (Keep.cons 1 rfl (Keep.cons 2 rfl (Keep.cons 5 rfl (Keep.cons 6 rfl (Keep.cons 7 rfl (Keep.cons 34 rfl Keep.nil))))))) ?_
  refine at_block ?_
  refine at_seq ?_
  refine at_region ?_
  refine wl_read rfl rfl rfl ((yp_eql rfl rfl rfl).2 (by omega)) ?_
  refine wl_read rfl rfl rfl (yl_assign rfl rfl) ?_
  refine wl_nil ?_
  refine at_keep (Keep.cons 0 rfl (Keep.cons 1 rfl (Keep.cons 2 rfl (Keep.cons 5 rfl (Keep.cons 6 rfl (Keep.cons 7 rfl (Keep.cons 34 rfl (Keep.cons 35 rfl Keep.nil)))))))) ?_
  refine at_false rfl ?_
  refine at_seq ?_
  refine at_seq ?_
  refine at_region ?_
  refine wl_read rfl rfl rfl ((yp_eql rfl rfl rfl).2 (by omega)) ?_
  refine wl_read rfl rfl rfl (yl_assign rfl rfl) ?_
  refine wl_nil ?_
  refine at_keep (Keep.cons 0 rfl (Keep.cons 1 rfl (Keep.cons 2 rfl (Keep.cons 5 rfl (Keep.cons 6 rfl (Keep.cons 7 rfl (Keep.cons 34 rfl (Keep.cons 35 rfl (Keep.cons 54 rfl Keep.nil))))))))) ?_
  refine at_false rfl ?_
  refine at_seq ?_
  refine at_region ?_
  refine wl_read rfl rfl rfl ((yp_eql rfl rfl rfl).2 (by omega)) ?_
  refine wl_read rfl rfl rfl (yl_assign rfl rfl) ?_
  refine wl_nil ?_
  refine at_keep (Keep.cons 0 rfl (Keep.cons 1 rfl (Keep.cons 2 rfl (Keep.cons 5 rfl (Keep.cons 6 rfl (Keep.cons 7 rfl (Keep.cons 34 rfl (Keep.cons 35 rfl (Keep.cons 54 rfl Keep.nil))))))))) ?_
  refine at_false rfl ?_
  refine at_region ?_
  refine wl_read rfl rfl rfl ((yp_eql rfl rfl rfl).1 (by omega)) ?_
  refine wl_read rfl rfl rfl (yl_assign rfl rfl) ?_
  refine wl_nil ?_
  refine at_keep (Keep.cons 0 rfl (Keep.cons 1 rfl (Keep.cons 2 rfl (Keep.cons 5 rfl (Keep.cons 6 rfl (Keep.cons 7 rfl (Keep.cons 34 rfl (Keep.cons 35 rfl (Keep.cons 54 rfl Keep.nil))))))))) ?_
  refine at_true rfl ?_
  refine at_seq ?_
  refine at_draw0 (.fl 0 (.fl 1 (.fl 3 (.fl 4 (.ef 2 (.ef 5 (.fl 6 (.fl 7 .nil)))))))) (by kernel_rfl) (by kernel_rfl) ?_
  refine wt_read rfl rfl rfl rfl (yl_fieldB rfl rfl Try.underlying45 rfl (by kernel_rfl) rfl) ?_
  refine wt_read rfl rfl rfl rfl (yl_load rfl rfl Try.underlying3 rfl (CellAt.bk 1 rfl rfl)) ?_
  refine wt_read rfl rfl rfl rfl (yl_fieldB rfl rfl Try.underlying45 rfl (by kernel_rfl) rfl) ?_
  refine wt_read rfl rfl rfl rfl (yl_load rfl rfl Try.underlying3 rfl (CellAt.bk 1 rfl rfl)) ?_
  refine wt_call rfl rfl rfl rfl (en_call rfl rfl) (mod_fn _ _ _ _ (by decide) (by decide)) ?_
  rintro _ _ ⟨rfl, rfl⟩
  refine ⟨⟨[], rfl⟩, ?_⟩
  refine wt_call rfl rfl rfl rfl (en_call rfl rfl) (mod_fn _ _ _ _ (by decide) (by decide)) ?_
  rintro _ _ ⟨rfl, rfl⟩
  refine ⟨⟨[], rfl⟩, ?_⟩
  refine wt_read rfl rfl rfl rfl (yl_assign rfl rfl) ?_
  refine wt_read rfl rfl rfl rfl (yl_assign rfl rfl) ?_
  refine wt_nil ?_
  refine at_keep (Keep.cons 0 rfl (Keep.cons 1 rfl (Keep.cons 2 rfl (Keep.cons 5 rfl (Keep.cons 6 rfl (Keep.cons 7 rfl (Keep.cons 8 rfl (Keep.cons 9 rfl (Keep.cons 34 rfl (Keep.cons 35 rfl (Keep.cons 54 rfl Keep.nil))))))))))) ?_
  refine at_seq ?_
  refine at_heap (fun _ hw => hw.front3.front2.front2.front3) ?_
  refine at_draw2 (.fl 0 (.fl 1 (.fl 2 (.fl 3 (.fl 4 (.fl 6 (.fl 7 (.fl 8 (.fl 9 (.fl 10 (.ef 5 (.ef 11 (.fl 12 (.fl 13 .nil)))))))))))))) (by kernel_rfl) (by kernel_rfl) ?_
  refine wt_read rfl rfl rfl rfl (yl_move rfl rfl) ?_
  refine wt_read rfl rfl rfl rfl (yl_move rfl rfl) ?_
  refine wt_read rfl rfl rfl rfl (yl_move rfl rfl) ?_
  refine wt_read rfl rfl rfl rfl (yl_fieldB rfl rfl Try.underlying45 rfl (by kernel_rfl) rfl) ?_
  refine wt_read rfl rfl rfl rfl (yl_load rfl rfl Try.underlying27 rfl (CellAt.bk 0 rfl rfl)) ?_
  refine wt_read rfl rfl rfl rfl (yl_move rfl rfl) ?_
  refine wt_read rfl rfl rfl rfl (yl_move rfl rfl) ?_
  refine wt_read rfl rfl rfl rfl (yl_move rfl rfl) ?_
  refine wt_read rfl rfl rfl rfl (yl_fieldB rfl rfl Try.underlying45 rfl (by kernel_rfl) rfl) ?_
  refine wt_read rfl rfl rfl rfl (yl_load rfl rfl Try.underlying27 rfl (CellAt.bk 0 rfl rfl)) ?_
  refine wt_call rfl rfl rfl rfl (en_call rfl rfl) (send_bad s.p s.k g _ _ (md x.from_ 6) (md x.to_ 6) x.bs x.A x.c hok) ?_
  rintro _ _ ⟨rfl, rfl⟩
  refine ⟨⟨[_, _], rfl⟩, ?_⟩
  refine wt_heap (fun _ hw => hw.front1) ?_
  refine wt_call rfl rfl rfl rfl (en_call rfl rfl) (rsend_bad s.q s.k r _ _ (md x.from_ 6) (md x.to_ 6) x.bs x.A x.c hok) ?_
  rintro _ _ ⟨rfl, rfl⟩
  refine ⟨⟨[_, _], rfl⟩, ?_⟩
  refine wt_read rfl rfl rfl rfl ((yp_eql rfl rfl rfl).1 rfl) ?_
  refine wt_read rfl rfl rfl rfl (yl_assign rfl rfl) ?_
  refine wt_nil ?_
  refine at_keep (Keep.cons 0 rfl (Keep.cons 1 rfl (Keep.cons 2 rfl (Keep.cons 5 rfl (Keep.cons 6 rfl (Keep.cons 7 rfl (Keep.cons 8 rfl (Keep.cons 9 rfl (Keep.cons 34 rfl (Keep.cons 35 rfl (Keep.cons 54 rfl Keep.nil))))))))))) ?_
  refine at_retH (fun _ hw => hw.front3.front1.front2.drop3) Try.func18 (res1 rfl rfl) ?_
  exact ⟨rfl, s, hs.mono, fun _ h => h, rfl⟩
theorem step_deliverin (s : Sc) (n : Nat) (g r : Nat) (x : Raw) (b : World) (H : List Asr) (hs : SOk s n) (hn : n ≤ 100) (hR : Rd H x.A x.bs) (hi : I64 x.i) (hw : md x.what 8 = 4) (j : Nat) (hj : j < s.p.length) (hij : iv s x.i = (j : Int)) : Fn Try.prog 18 [.pointer (some ⟨g, 0, none⟩), .pointer (some ⟨r, 0, none⟩), .agg (Enc.cells x).toArray] b (Chn 58 g s.p s.k :: Chn 42 r s.q s.k :: Pool s.pl :: H) (fun v H' => v = .bool true ∧ ∃ s', SOk s' (n + 1) ∧ (∀ m, m ∈ s.pl → m ∈ s'.pl) ∧ H' = Chn 58 g s'.p s'.k :: Chn 42 r s'.q s'.k :: Pool s'.pl :: H) := by
  have hlen := hs.len
  have hlq := hs.lenq
  have hks := hs.ks
  have hkd := hs.kd
  have hkl := hs.kl
  have hkr := hs.kr
  have hm1 := md_bd x.i ((s.p.length : Int) + 2) (by omega)
  have hm1q := md_bd x.i ((s.q.length : Int) + 2) (by omega)
  have hm2 := md_bd (x.i.tdiv 100) 2 (by omega)
  have hq : -9223372036854775808 ≤ x.i.tdiv 100 ∧ x.i.tdiv 100 ≤ 9223372036854775807 := by
    obtain ⟨h1, h2⟩ := hi
    obtain ⟨h3, h4⟩ := tdiv_eq_if x.i 100 (by decide)
    rcases Int.le_total 0 x.i with h | h
    · have := h3 h; omega
    · have := h4 h; omega

  have hjq : j < s.q.length := by omega
  refine fn_of_at (by kernel_rfl) Try.func18 rfl Try.ntmps18 rfl rfl ?_
  refine at_seq ?_
  refine at_region ?_
  refine wl_eff rfl rfl rfl (ef_box rfl rfl rfl) ?_
  rintro _ _ ⟨g0, rfl, rfl⟩
  refine wl_read rfl rfl rfl (yl_assign rfl rfl) ?_
  refine wl_nil ?_
  refine at_keep (Keep.cons 0 rfl (Keep.cons 1 rfl (Keep.cons 2 rfl (Keep.cons 5 rfl (Keep.cons 6 rfl Keep.nil))))) ?_
  refine at_seq ?_
  refine at_heap (fun _ hw => hw.front2) ?_
  refine at_open (fun _ hw => Chn.opens hw) (fun x => ?_)
  obtain ⟨A9, c9⟩ := x
  refine at_draw0 (.fl 0 (.fl 1 (.fl 2 (.fl 3 (.fl 4 (.fl 5 (.fl 6 (.fl 7 (.fl 9 (.fl 10 (.fl 11 (.ef 8 (.ef 12 (.fl 13 (.fl 14 .nil))))))))))))))) (by kernel_rfl) (by kernel_rfl) ?_
  refine wt_read rfl rfl rfl rfl (yl_fieldB rfl rfl Try.underlying45 rfl (by kernel_rfl) rfl) ?_
  refine wt_read rfl rfl rfl rfl (yl_load rfl rfl Try.underlying3 rfl (CellAt.bk 2 rfl rfl)) ?_
  refine wt_read rfl rfl rfl rfl (yl_move rfl rfl) ?_
  refine wt_read rfl rfl rfl rfl (yl_nilCheck rfl rfl) ?_
  refine wt_read rfl rfl rfl rfl (yl_fieldB rfl rfl Try.underlying42 rfl (by kernel_rfl) rfl) ?_
  refine wt_read rfl rfl rfl rfl (yl_load rfl rfl Try.underlying40 rfl (CellAt.bk 0 rfl rfl)) ?_
  refine wt_read rfl rfl rfl rfl (yl_len rfl rfl Try.underlying40) ?_
  refine wt_read rfl rfl rfl rfl (yl_add rfl rfl rfl (w64 (by omega) (by omega))) ?_
  refine wt_read rfl rfl rfl rfl (yl_fieldB rfl rfl Try.underlying45 rfl (by kernel_rfl) rfl) ?_
  refine wt_read rfl rfl rfl rfl (yl_load rfl rfl Try.underlying3 rfl (CellAt.bk 2 rfl rfl)) ?_
  refine wt_read rfl rfl rfl rfl (yl_quo rfl rfl rfl (by decide) (w64 hq.1 hq.2)) ?_
  refine wt_call rfl rfl rfl rfl (en_call rfl rfl) (mod_fn _ _ _ _ (by omega) (by omega)) ?_
  rintro _ _ ⟨rfl, rfl⟩
  refine ⟨⟨[], rfl⟩, ?_⟩
  refine wt_call rfl rfl rfl rfl (en_call rfl rfl) (mod_fn _ _ _ _ (by decide) (by decide)) ?_
  rintro _ _ ⟨rfl, rfl⟩
  refine ⟨⟨[], rfl⟩, ?_⟩
  refine wt_read rfl rfl rfl rfl (yl_sub rfl rfl rfl (w64 (by omega) (by omega))) ?_
  refine wt_read rfl rfl rfl rfl (yl_assign rfl rfl) ?_
  refine wt_nil ?_
  refine at_keep (Keep.cons 0 rfl (Keep.cons 1 rfl (Keep.cons 2 rfl (Keep.cons 5 rfl (Keep.cons 6 rfl (Keep.cons 7 rfl Keep.nil)))))) ?_
  refine at_seq ?_
  refine at_seq ?_
  refine at_heap (fun _ hw => hw.front1.front1) ?_
  refine at_heap (fun _ hw => Chn.closes (ms := s.q) (k := s.k) hw) ?_
  rw [hlq]
  rw [show md x.i ((s.p.length : Int) + 2) - md (x.i.tdiv 100) 2 = iv s x.i from rfl]
  rw [hij]
  refine at_region ?_
  refine wl_read rfl rfl rfl (yl_fieldB rfl rfl Try.underlying45 rfl (by kernel_rfl) rfl) ?_
  refine wl_read rfl rfl rfl (yl_load rfl rfl Try.underlying3 rfl (CellAt.bk 1 rfl rfl)) ?_
  refine wl_call rfl rfl rfl (en_call rfl rfl) (mod_fn _ _ _ _ (by decide) (by decide)) ?_
  rintro _ _ ⟨rfl, rfl⟩
  refine wl_nil ?_
  refine at_keep (Keep.cons 0 rfl (Keep.cons 1 rfl (Keep.cons 2 rfl (Keep.cons 5 rfl (Keep.cons 6 rfl (Keep.cons 7 rfl (Keep.cons 34 rfl Keep.nil))))))) ?_
  refine at_block ?_
  refine at_seq ?_
  refine at_region ?_
  refine wl_read rfl rfl rfl ((yp_eql rfl rfl rfl).2 (by omega)) ?_
  refine wl_read rfl rfl rfl (yl_assign rfl rfl) ?_
  refine wl_nil ?_
  refine at_keep (Keep.cons 0 rfl (Keep.cons 1 rfl (Keep.cons 2 rfl (Keep.cons 5 rfl (Keep.cons 6 rfl (Keep.cons 7 rfl (Keep.cons 34 rfl (Keep.cons 35 rfl Keep.nil)))))))) ?_
  refine at_false rfl ?_
  refine at_seq ?_
  refine at_seq ?_
  refine at_region ?_
  refine wl_read rfl rfl rfl ((yp_eql rfl rfl rfl).2 (by omega)) ?_
  refine wl_read rfl rfl rfl (yl_assign rfl rfl) ?_
  refine wl_nil ?_
  refine at_keep (Keep.cons 0 rfl (Keep.cons 1 rfl (Keep.cons 2 rfl (Keep.cons 5 rfl (Keep.cons 6 rfl (Keep.cons 7 rfl (Keep.cons 34 rfl (Keep.cons 35 rfl (Keep.cons 54 rfl Keep.nil))))))))) ?_
  refine at_false rfl ?_
  refine at_seq ?_
  refine at_region ?_
  refine wl_read rfl rfl rfl ((yp_eql rfl rfl rfl).2 (by omega)) ?_
  refine wl_read rfl rfl rfl (yl_assign rfl rfl) ?_
  refine wl_nil ?_
  refine at_keep (Keep.cons 0 rfl (Keep.cons 1 rfl (Keep.cons 2 rfl (Keep.cons 5 rfl (Keep.cons 6 rfl (Keep.cons 7 rfl (Keep.cons 34 rfl (Keep.cons 35 rfl (Keep.cons 54 rfl Keep.nil))))))))) ?_
  refine at_false rfl ?_
  refine at_region ?_
  refine wl_read rfl rfl rfl ((yp_eql rfl rfl rfl).2 (by omega)) ?_
  refine wl_read rfl rfl rfl (yl_assign rfl rfl) ?_
  refine wl_nil ?_
  refine at_keep (Keep.cons 0 rfl (Keep.cons 1 rfl (Keep.cons 2 rfl (Keep.cons 5 rfl (Keep.cons 6 rfl (Keep.cons 7 rfl (Keep.cons 34 rfl (Keep.cons 35 rfl (Keep.cons 54 rfl Keep.nil))))))))) ?_
  refine at_false rfl ?_
  refine at_seq ?_
  refine at_region ?_
  refine wl_read rfl rfl rfl ((yp_eql rfl rfl rfl).1 (by omega)) ?_
  refine wl_read rfl rfl rfl (yl_assign rfl rfl) ?_
  refine wl_nil ?_
  refine at_keep (Keep.cons 0 rfl (Keep.cons 1 rfl (Keep.cons 2 rfl (Keep.cons 5 rfl (Keep.cons 6 rfl (Keep.cons 7 rfl (Keep.cons 34 rfl (Keep.cons 35 rfl (Keep.cons 54 rfl (Keep.cons 77 rfl Keep.nil)))))))))) ?_
  refine at_true rfl ?_
  refine at_seq ?_
  refine at_region ?_
  refine wl_read rfl rfl rfl (yl_move rfl rfl) ?_
  refine wl_read rfl rfl rfl (yl_move rfl rfl) ?_
  refine wl_heap (fun _ hw => hw.front2) ?_
  refine wl_call rfl rfl rfl (en_call rfl rfl) (deliver_fn s.p s.k g _ _ j (okP hs (by omega) 2 rfl) hj (by omega)) ?_
  rintro _ _ ⟨A1, c1, rfl, rfl⟩
  refine wl_read rfl rfl rfl (yl_move rfl rfl) ?_
  refine wl_read rfl rfl rfl (yl_extract rfl rfl rfl) ?_
  refine wl_read rfl rfl rfl (yl_extract rfl rfl rfl) ?_
  refine wl_eff rfl rfl rfl (ef_alloc (cs := [.int .i64 0, .int .i64 0, .slice none 0 0]) (z := .agg #[.int .i64 0, .int .i64 0, .slice none 0 0]) rfl (by kernel_rfl) rfl) ?_
  rintro _ _ ⟨g11_6, rfl, rfl⟩
  refine wl_store rfl rfl (es_at0 (es_storeN 0 rfl rfl rfl rfl (by kernel_rfl) rfl rfl)) ?_
  refine wl_read rfl rfl rfl (yl_assign rfl rfl) ?_
  refine wl_nil ?_
  refine at_keep (Keep.cons 0 rfl (Keep.cons 1 rfl (Keep.cons 2 rfl (Keep.cons 5 rfl (Keep.cons 6 rfl (Keep.cons 7 rfl (Keep.cons 10 rfl (Keep.cons 11 rfl (Keep.cons 34 rfl (Keep.cons 35 rfl (Keep.cons 54 rfl (Keep.cons 77 rfl Keep.nil)))))))))))) ?_
  refine at_seq ?_
  refine at_region ?_
  refine wl_read rfl rfl rfl (yl_move rfl rfl) ?_
  refine wl_read rfl rfl rfl (yl_move rfl rfl) ?_
  refine wl_heap (fun _ hw => hw.front3) ?_
  refine wl_call rfl rfl rfl (en_call rfl rfl) (rdeliver_fn s.q s.k r _ _ j (okQ hs (by omega) 4 rfl) (by omega) (by omega)) ?_
  rintro _ _ ⟨A2, c2, rfl, rfl⟩
  refine wl_read rfl rfl rfl (yl_move rfl rfl) ?_
  refine wl_read rfl rfl rfl (yl_extract rfl rfl rfl) ?_
  refine wl_read rfl rfl rfl (yl_extract rfl rfl rfl) ?_
  refine wl_eff rfl rfl rfl (ef_alloc (cs := [.int .i64 0, .int .i64 0, .slice none 0 0]) (z := .agg #[.int .i64 0, .int .i64 0, .slice none 0 0]) rfl (by kernel_rfl) rfl) ?_
  rintro _ _ ⟨g12_6, rfl, rfl⟩
  refine wl_store rfl rfl (es_at0 (es_storeN 0 rfl rfl rfl rfl (by kernel_rfl) rfl rfl)) ?_
  refine wl_read rfl rfl rfl (yl_assign rfl rfl) ?_
  refine wl_nil ?_
  refine at_keep (Keep.cons 0 rfl (Keep.cons 1 rfl (Keep.cons 2 rfl (Keep.cons 5 rfl (Keep.cons 6 rfl (Keep.cons 7 rfl (Keep.cons 10 rfl (Keep.cons 11 rfl (Keep.cons 12 rfl (Keep.cons 13 rfl (Keep.cons 34 rfl (Keep.cons 35 rfl (Keep.cons 54 rfl (Keep.cons 77 rfl Keep.nil)))))))))))))) ?_
  refine at_seq ?_
  refine at_region ?_
  refine wl_read rfl rfl rfl (yl_move rfl rfl) ?_
  refine wl_read rfl rfl rfl (yl_move rfl rfl) ?_
  refine wl_read rfl rfl rfl ((yp_eqb rfl rfl rfl Try.underlying4).1 rfl) ?_
  refine wl_read rfl rfl rfl (yl_move rfl rfl) ?_
  refine wl_read rfl rfl rfl (yl_loadBk 3 rfl rfl rfl Try.underlying33 rfl (by kernel_rfl)) ?_
  refine wl_read rfl rfl rfl (yl_loadBk 0 rfl rfl rfl Try.underlying33 rfl (by kernel_rfl)) ?_
  refine wl_call rfl rfl rfl (en_call rfl rfl) (message_fn ((at_ s.p j).cp A1 c1) ((at_ s.q j).cp A2 c2) _ _ (Rd.of_sl (xs := (at_ s.p j).bs) 4 rfl) (Rd.of_sl (xs := (at_ s.q j).bs) 1 rfl)) ?_
  rintro _ _ ⟨rfl, rfl⟩
  have heq : ((at_ s.p j).cp A1 c1).abs = ((at_ s.q j).cp A2 c2).abs := by rw [Msg.abs_cp, Msg.abs_cp]; exact hs.at_ j hj
  rw [decide_eq_true heq]
  refine wl_read rfl rfl rfl (yl_pickT rfl rfl rfl) ?_
  refine wl_read rfl rfl rfl (yl_assign rfl rfl) ?_
  refine wl_nil ?_
  refine at_keep (Keep.cons 0 rfl (Keep.cons 1 rfl (Keep.cons 2 rfl (Keep.cons 5 rfl (Keep.cons 6 rfl (Keep.cons 7 rfl (Keep.cons 10 rfl (Keep.cons 11 rfl (Keep.cons 12 rfl (Keep.cons 13 rfl (Keep.cons 34 rfl (Keep.cons 35 rfl (Keep.cons 54 rfl (Keep.cons 77 rfl Keep.nil)))))))))))))) ?_
  refine at_retH (fun _ hw => hw.front7.front3.front6.drop3.drop3.drop3.drop3.drop3) Try.func18 (res1 rfl rfl) ?_
  exact ⟨rfl, ⟨s.p.eraseIdx j, s.q.eraseIdx j, { s.k with del := s.k.del + 1 }, s.pl⟩, hs.cut j hj _ (.inl rfl), fun _ h => h, rfl⟩
theorem step_deliverout (s : Sc) (n : Nat) (g r : Nat) (x : Raw) (b : World) (H : List Asr) (hs : SOk s n) (hn : n ≤ 100) (hR : Rd H x.A x.bs) (hi : I64 x.i) (hw : md x.what 8 = 4) (hio : ¬ (0 ≤ iv s x.i ∧ iv s x.i < (s.p.length : Int))) : Fn Try.prog 18 [.pointer (some ⟨g, 0, none⟩), .pointer (some ⟨r, 0, none⟩), .agg (Enc.cells x).toArray] b (Chn 58 g s.p s.k :: Chn 42 r s.q s.k :: Pool s.pl :: H) (fun v H' => v = .bool true ∧ ∃ s', SOk s' (n + 1) ∧ (∀ m, m ∈ s.pl → m ∈ s'.pl) ∧ H' = Chn 58 g s'.p s'.k :: Chn 42 r s'.q s'.k :: Pool s'.pl :: H) := by
  have hlen := hs.len
  have hlq := hs.lenq
  have hks := hs.ks
  have hkd := hs.kd
  have hkl := hs.kl
  have hkr := hs.kr
  have hm1 := md_bd x.i ((s.p.length : Int) + 2) (by omega)
  have hm1q := md_bd x.i ((s.q.length : Int) + 2) (by omega)
  have hm2 := md_bd (x.i.tdiv 100) 2 (by omega)
  have hq : -9223372036854775808 ≤ x.i.tdiv 100 ∧ x.i.tdiv 100 ≤ 9223372036854775807 := by
    obtain ⟨h1, h2⟩ := hi
    obtain ⟨h3, h4⟩ := tdiv_eq_if x.i 100 (by decide)
    rcases Int.le_total 0 x.i with h | h
    · have := h3 h; omega
    · have := h4 h; omega

  refine fn_of_at (by kernel_rfl) Try.func18 rfl Try.ntmps18 rfl rfl ?_
  refine at_seq ?_
  refine at_region ?_
  refine wl_eff rfl rfl rfl (ef_box rfl rfl rfl) ?_
  rintro _ _ ⟨g0, rfl, rfl⟩
  refine wl_read rfl rfl rfl (yl_assign rfl rfl) ?_
  refine wl_nil ?_
  refine at_keep (Keep.cons 0 rfl (Keep.cons 1 rfl (Keep.cons 2 rfl (Keep.cons 5 rfl (Keep.cons 6 rfl Keep.nil))))) ?_
  refine at_seq ?_
  refine at_heap (fun _ hw => hw.front2) ?_
  refine at_open (fun _ hw => Chn.opens hw) (fun x => ?_)
  obtain ⟨A9, c9⟩ := x
  refine at_draw0 (.fl 0 (.fl 1 (.fl 2 (.fl 3 (.fl 4 (.fl 5 (.fl 6 (.fl 7 (.fl 9 (.fl 10 (.fl 11 (.ef 8 (.ef 12 (.fl 13 (.fl 14 .nil))))))))))))))) (by kernel_rfl) (by kernel_rfl) ?_
  refine wt_read rfl rfl rfl rfl (yl_fieldB rfl rfl Try.underlying45 rfl (by kernel_rfl) rfl) ?_
  refine wt_read rfl rfl rfl rfl (yl_load rfl rfl Try.underlying3 rfl (CellAt.bk 2 rfl rfl)) ?_
  refine wt_read rfl rfl rfl rfl (yl_move rfl rfl) ?_
  refine wt_read rfl rfl rfl rfl (yl_nilCheck rfl rfl) ?_
  refine wt_read rfl rfl rfl rfl (yl_fieldB rfl rfl Try.underlying42 rfl (by kernel_rfl) rfl) ?_
  refine wt_read rfl rfl rfl rfl (yl_load rfl rfl Try.underlying40 rfl (CellAt.bk 0 rfl rfl)) ?_
  refine wt_read rfl rfl rfl rfl (yl_len rfl rfl Try.underlying40) ?_
  refine wt_read rfl rfl rfl rfl (yl_add rfl rfl rfl (w64 (by omega) (by omega))) ?_
  refine wt_read rfl rfl rfl rfl (yl_fieldB rfl rfl Try.underlying45 rfl (by kernel_rfl) rfl) ?_
  refine wt_read rfl rfl rfl rfl (yl_load rfl rfl Try.underlying3 rfl (CellAt.bk 2 rfl rfl)) ?_
  refine wt_read rfl rfl rfl rfl (yl_quo rfl rfl rfl (by decide) (w64 hq.1 hq.2)) ?_
  refine wt_call rfl rfl rfl rfl (en_call rfl rfl) (mod_fn _ _ _ _ (by omega) (by omega)) ?_
  rintro _ _ ⟨rfl, rfl⟩
  refine ⟨⟨[], rfl⟩, ?_⟩
  refine wt_call rfl rfl rfl rfl (en_call rfl rfl) (mod_fn _ _ _ _ (by decide) (by decide)) ?_
  rintro _ _ ⟨rfl, rfl⟩
  refine ⟨⟨[], rfl⟩, ?_⟩
  refine wt_read rfl rfl rfl rfl (yl_sub rfl rfl rfl (w64 (by omega) (by omega))) ?_
  refine wt_read rfl rfl rfl rfl (yl_assign rfl rfl) ?_
  refine wt_nil ?_
  refine at_keep (Keep.cons 0 rfl (Keep.cons 1 rfl (Keep.cons 2 rfl (Keep.cons 5 rfl (Keep.cons 6 rfl (Keep.cons 7 rfl Keep.nil)))))) ?_
  refine at_seq ?_
  refine at_seq ?_
  refine at_heap (fun _ hw => hw.front1.front1) ?_
  refine at_heap (fun _ hw => Chn.closes (ms := s.q) (k := s.k) hw) ?_
  rw [hlq]
  rw [show md x.i ((s.p.length : Int) + 2) - md (x.i.tdiv 100) 2 = iv s x.i from rfl]
  refine at_region ?_
  refine wl_read rfl rfl rfl (yl_fieldB rfl rfl Try.underlying45 rfl (by kernel_rfl) rfl) ?_
  refine wl_read rfl rfl rfl (yl_load rfl rfl Try.underlying3 rfl (CellAt.bk 1 rfl rfl)) ?_
  refine wl_call rfl rfl rfl (en_call rfl rfl) (mod_fn _ _ _ _ (by decide) (by decide)) ?_
  rintro _ _ ⟨rfl, rfl⟩
  refine wl_nil ?_
  refine at_keep (Keep.cons 0 rfl (Keep.cons 1 rfl (Keep.cons 2 rfl (Keep.cons 5 rfl (Keep.cons 6 rfl (Keep.cons 7 rfl (Keep.cons 34 rfl Keep.nil))))))) ?_
  refine at_block ?_
  refine at_seq ?_
  refine at_region ?_
  refine wl_read rfl rfl rfl ((yp_eql rfl rfl rfl).2 (by omega)) ?_
  refine wl_read rfl rfl rfl (yl_assign rfl rfl) ?_
  refine wl_nil ?_
  refine at_keep (Keep.cons 0 rfl (Keep.cons 1 rfl (Keep.cons 2 rfl (Keep.cons 5 rfl (Keep.cons 6 rfl (Keep.cons 7 rfl (Keep.cons 34 rfl (Keep.cons 35 rfl Keep.nil)))))))) ?_
  refine at_false rfl ?_
  refine at_seq ?_
  refine at_seq ?_
  refine at_region ?_
  refine wl_read rfl rfl rfl ((yp_eql rfl rfl rfl).2 (by omega)) ?_
  refine wl_read rfl rfl rfl (yl_assign rfl rfl) ?_
  refine wl_nil ?_
  refine at_keep (Keep.cons 0 rfl (Keep.cons 1 rfl (Keep.cons 2 rfl (Keep.cons 5 rfl (Keep.cons 6 rfl (Keep.cons 7 rfl (Keep.cons 34 rfl (Keep.cons 35 rfl (Keep.cons 54 rfl Keep.nil))))))))) ?_
  refine at_false rfl ?_
  refine at_seq ?_
  refine at_region ?_
  refine wl_read rfl rfl rfl ((yp_eql rfl rfl rfl).2 (by omega)) ?_
  refine wl_read rfl rfl rfl (yl_assign rfl rfl) ?_
  refine wl_nil ?_
  refine at_keep (Keep.cons 0 rfl (Keep.cons 1 rfl (Keep.cons 2 rfl (Keep.cons 5 rfl (Keep.cons 6 rfl (Keep.cons 7 rfl (Keep.cons 34 rfl (Keep.cons 35 rfl (Keep.cons 54 rfl Keep.nil))))))))) ?_
  refine at_false rfl ?_
  refine at_region ?_
  refine wl_read rfl rfl rfl ((yp_eql rfl rfl rfl).2 (by omega)) ?_
  refine wl_read rfl rfl rfl (yl_assign rfl rfl) ?_
  refine wl_nil ?_
  refine at_keep (Keep.cons 0 rfl (Keep.cons 1 rfl (Keep.cons 2 rfl (Keep.cons 5 rfl (Keep.cons 6 rfl (Keep.cons 7 rfl (Keep.cons 34 rfl (Keep.cons 35 rfl (Keep.cons 54 rfl Keep.nil))))))))) ?_
  refine at_false rfl ?_
  refine at_seq ?_
  refine at_region ?_
  refine wl_read rfl rfl rfl ((yp_eql rfl rfl rfl).1 (by omega)) ?_
  refine wl_read rfl rfl rfl (yl_assign rfl rfl) ?_
  refine wl_nil ?_
  refine at_keep (Keep.cons 0 rfl (Keep.cons 1 rfl (Keep.cons 2 rfl (Keep.cons 5 rfl (Keep.cons 6 rfl (Keep.cons 7 rfl (Keep.cons 34 rfl (Keep.cons 35 rfl (Keep.cons 54 rfl (Keep.cons 77 rfl Keep.nil)))))))))) ?_
  refine at_true rfl ?_
  refine at_seq ?_
  refine at_region ?_
  refine wl_read rfl rfl rfl (yl_move rfl rfl) ?_
  refine wl_read rfl rfl rfl (yl_move rfl rfl) ?_
  refine wl_heap (fun _ hw => hw.front2) ?_
  refine wl_call rfl rfl rfl (en_call rfl rfl) (deliver_out s.p s.k g _ _ _ hio) ?_
  rintro _ _ ⟨rfl, rfl⟩
  refine wl_read rfl rfl rfl (yl_move rfl rfl) ?_
  refine wl_read rfl rfl rfl (yl_extract rfl rfl rfl) ?_
  refine wl_read rfl rfl rfl (yl_extract rfl rfl rfl) ?_
  refine wl_eff rfl rfl rfl (ef_alloc (cs := [.int .i64 0, .int .i64 0, .slice none 0 0]) (z := .agg #[.int .i64 0, .int .i64 0, .slice none 0 0]) rfl (by kernel_rfl) rfl) ?_
  rintro _ _ ⟨g11_6, rfl, rfl⟩
  refine wl_store rfl rfl (es_at0 (es_storeN 0 rfl rfl rfl rfl (by kernel_rfl) rfl rfl)) ?_
  refine wl_read rfl rfl rfl (yl_assign rfl rfl) ?_
  refine wl_nil ?_
  refine at_keep (Keep.cons 0 rfl (Keep.cons 1 rfl (Keep.cons 2 rfl (Keep.cons 5 rfl (Keep.cons 6 rfl (Keep.cons 7 rfl (Keep.cons 10 rfl (Keep.cons 11 rfl (Keep.cons 34 rfl (Keep.cons 35 rfl (Keep.cons 54 rfl (Keep.cons 77 rfl Keep.nil)))))))))))) ?_
  refine at_seq ?_
  refine at_region ?_
  refine wl_read rfl rfl rfl (yl_move rfl rfl) ?_
  refine wl_read rfl rfl rfl (yl_move rfl rfl) ?_
  refine wl_heap (fun _ hw => hw.front2) ?_
  refine wl_call rfl rfl rfl (en_call rfl rfl) (rdeliver_out s.q s.k r _ _ _ (by rw [hlq]; exact hio)) ?_
  rintro _ _ ⟨rfl, rfl⟩
  refine wl_read rfl rfl rfl (yl_move rfl rfl) ?_
  refine wl_read rfl rfl rfl (yl_extract rfl rfl rfl) ?_
  refine wl_read rfl rfl rfl (yl_extract rfl rfl rfl) ?_
  refine wl_eff rfl rfl rfl (ef_alloc (cs := [.int .i64 0, .int .i64 0, .slice none 0 0]) (z := .agg #[.int .i64 0, .int .i64 0, .slice none 0 0]) rfl (by kernel_rfl) rfl) ?_
  rintro _ _ ⟨g12_6, rfl, rfl⟩
  refine wl_store rfl rfl (es_at0 (es_storeN 0 rfl rfl rfl rfl (by kernel_rfl) rfl rfl)) ?_
  refine wl_read rfl rfl rfl (yl_assign rfl rfl) ?_
  refine wl_nil ?_
  refine at_keep (Keep.cons 0 rfl (Keep.cons 1 rfl (Keep.cons 2 rfl (Keep.cons 5 rfl (Keep.cons 6 rfl (Keep.cons 7 rfl (Keep.cons 10 rfl (Keep.cons 11 rfl (Keep.cons 12 rfl (Keep.cons 13 rfl (Keep.cons 34 rfl (Keep.cons 35 rfl (Keep.cons 54 rfl (Keep.cons 77 rfl Keep.nil)))))))))))))) ?_
  refine at_seq ?_
  refine at_region ?_
  refine wl_read rfl rfl rfl (yl_move rfl rfl) ?_
  refine wl_read rfl rfl rfl (yl_move rfl rfl) ?_
  refine wl_read rfl rfl rfl ((yp_eqb rfl rfl rfl Try.underlying4).1 rfl) ?_
  refine wl_read rfl rfl rfl (yl_move rfl rfl) ?_
  refine wl_read rfl rfl rfl (yl_loadBk 2 rfl rfl rfl Try.underlying33 rfl (by kernel_rfl)) ?_
  refine wl_read rfl rfl rfl (yl_loadBk 0 rfl rfl rfl Try.underlying33 rfl (by kernel_rfl)) ?_
  refine wl_call rfl rfl rfl (en_call rfl rfl) (message_fn Msg.zero Msg.zero _ _ Rd.nil Rd.nil) ?_
  rintro _ _ ⟨rfl, rfl⟩
  rw [decide_eq_true rfl]
  refine wl_read rfl rfl rfl (yl_pickT rfl rfl rfl) ?_
  refine wl_read rfl rfl rfl (yl_assign rfl rfl) ?_
  refine wl_nil ?_
  refine at_keep (Keep.cons 0 rfl (Keep.cons 1 rfl (Keep.cons 2 rfl (Keep.cons 5 rfl (Keep.cons 6 rfl (Keep.cons 7 rfl (Keep.cons 10 rfl (Keep.cons 11 rfl (Keep.cons 12 rfl (Keep.cons 13 rfl (Keep.cons 34 rfl (Keep.cons 35 rfl (Keep.cons 54 rfl (Keep.cons 77 rfl Keep.nil)))))))))))))) ?_
  refine at_retH (fun _ hw => hw.front5.front2.front4.drop3.drop3.drop3) Try.func18 (res1 rfl rfl) ?_
  exact ⟨rfl, s, hs.mono, fun _ h => h, rfl⟩
theorem step_atin (s : Sc) (n : Nat) (g r : Nat) (x : Raw) (b : World) (H : List Asr) (hs : SOk s n) (hn : n ≤ 100) (hR : Rd H x.A x.bs) (hi : I64 x.i) (hw : md x.what 8 = 7) (j : Nat) (hj : j < s.p.length) (hij : iv s x.i = (j : Int)) : Fn Try.prog 18 [.pointer (some ⟨g, 0, none⟩), .pointer (some ⟨r, 0, none⟩), .agg (Enc.cells x).toArray] b (Chn 58 g s.p s.k :: Chn 42 r s.q s.k :: Pool s.pl :: H) (fun v H' => v = .bool true ∧ ∃ s', SOk s' (n + 1) ∧ (∀ m, m ∈ s.pl → m ∈ s'.pl) ∧ H' = Chn 58 g s'.p s'.k :: Chn 42 r s'.q s'.k :: Pool s'.pl :: H) := by
  have hlen := hs.len
  have hlq := hs.lenq
  have hks := hs.ks
  have hkd := hs.kd
  have hkl := hs.kl
  have hkr := hs.kr
  have hm1 := md_bd x.i ((s.p.length : Int) + 2) (by omega)
  have hm1q := md_bd x.i ((s.q.length : Int) + 2) (by omega)
  have hm2 := md_bd (x.i.tdiv 100) 2 (by omega)
  have hq : -9223372036854775808 ≤ x.i.tdiv 100 ∧ x.i.tdiv 100 ≤ 9223372036854775807 := by
    obtain ⟨h1, h2⟩ := hi
    obtain ⟨h3, h4⟩ := tdiv_eq_if x.i 100 (by decide)
    rcases Int.le_total 0 x.i with h | h
    · have := h3 h; omega
    · have := h4 h; omega

  have hjq : j < s.q.length := by omega
  refine fn_of_at (by kernel_rfl) Try.func18 rfl Try.ntmps18 rfl rfl ?_
  refine at_seq ?_
  refine at_region ?_
  refine wl_eff rfl rfl rfl (ef_box rfl rfl rfl) ?_
  rintro _ _ ⟨g0, rfl, rfl⟩
  refine wl_read rfl rfl rfl (yl_assign rfl rfl) ?_
  refine wl_nil ?_
  refine at_keep (Keep.cons 0 rfl (Keep.cons 1 rfl (Keep.cons 2 rfl (Keep.cons 5 rfl (Keep.cons 6 rfl Keep.nil))))) ?_
  refine at_seq ?_
  refine at_heap (fun _ hw => hw.front2) ?_
  refine at_open (fun _ hw => Chn.opens hw) (fun x => ?_)
  obtain ⟨A9, c9⟩ := x
  refine at_draw0 (.fl 0 (.fl 1 (.fl 2 (.fl 3 (.fl 4 (.fl 5 (.fl 6 (.fl 7 (.fl 9 (.fl 10 (.fl 11 (.ef 8 (.ef 12 (.fl 13 (.fl 14 .nil))))))))))))))) (by kernel_rfl) (by kernel_rfl) ?_
  refine wt_read rfl rfl rfl rfl (yl_fieldB rfl rfl Try.underlying45 rfl (by kernel_rfl) rfl) ?_
  refine wt_read rfl rfl rfl rfl (yl_load rfl rfl Try.underlying3 rfl (CellAt.bk 2 rfl rfl)) ?_
  refine wt_read rfl rfl rfl rfl (yl_move rfl rfl) ?_
  refine wt_read rfl rfl rfl rfl (yl_nilCheck rfl rfl) ?_
  refine wt_read rfl rfl rfl rfl (yl_fieldB rfl rfl Try.underlying42 rfl (by kernel_rfl) rfl) ?_
  refine wt_read rfl rfl rfl rfl (yl_load rfl rfl Try.underlying40 rfl (CellAt.bk 0 rfl rfl)) ?_
  refine wt_read rfl rfl rfl rfl (yl_len rfl rfl Try.underlying40) ?_
  refine wt_read rfl rfl rfl rfl (yl_add rfl rfl rfl (w64 (by omega) (by omega))) ?_
  refine wt_read rfl rfl rfl rfl (yl_fieldB rfl rfl Try.underlying45 rfl (by kernel_rfl) rfl) ?_
  refine wt_read rfl rfl rfl rfl (yl_load rfl rfl Try.underlying3 rfl (CellAt.bk 2 rfl rfl)) ?_
  refine wt_read rfl rfl rfl rfl (yl_quo rfl rfl rfl (by decide) (w64 hq.1 hq.2)) ?_
  refine wt_call rfl rfl rfl rfl (en_call rfl rfl) (mod_fn _ _ _ _ (by omega) (by omega)) ?_
  rintro _ _ ⟨rfl, rfl⟩
  refine ⟨⟨[], rfl⟩, ?_⟩
  refine wt_call rfl rfl rfl rfl (en_call rfl rfl) (mod_fn _ _ _ _ (by decide) (by decide)) ?_
  rintro _ _ ⟨rfl, rfl⟩
  refine ⟨⟨[], rfl⟩, ?_⟩
  refine wt_read rfl rfl rfl rfl (yl_sub rfl rfl rfl (w64 (by omega) (by omega))) ?_
  refine wt_read rfl rfl rfl rfl (yl_assign rfl rfl) ?_
  refine wt_nil ?_
  refine at_keep (Keep.cons 0 rfl (Keep.cons 1 rfl (Keep.cons 2 rfl (Keep.cons 5 rfl (Keep.cons 6 rfl (Keep.cons 7 rfl Keep.nil)))))) ?_
  refine at_seq ?_
  refine at_seq ?_
  refine at_heap (fun _ hw => hw.front1.front1) ?_
  refine at_heap (fun _ hw => Chn.closes (ms := s.q) (k := s.k) hw) ?_
  rw [hlq]
  rw [show md x.i ((s.p.length : Int) + 2) - md (x.i.tdiv 100) 2 = iv s x.i from rfl]
  rw [hij]
  refine at_region ?_
  refine wl_read rfl rfl rfl (yl_fieldB rfl rfl Try.underlying45 rfl (by kernel_rfl) rfl) ?_
  refine wl_read rfl rfl rfl (yl_load rfl rfl Try.underlying3 rfl (CellAt.bk 1 rfl rfl)) ?_
  refine wl_call rfl rfl rfl (en_call rfl rfl) (mod_fn _ _ _ _ (by decide) (by decide)) ?_
  rintro _ _ ⟨rfl, rfl⟩
  refine wl_nil ?_
  refine at_keep (Keep.cons 0 rfl (Keep.cons 1 rfl (Keep.cons 2 rfl (Keep.cons 5 rfl (Keep.cons 6 rfl (Keep.cons 7 rfl (Keep.cons 34 rfl Keep.nil))))))) ?_
  refine at_block ?_
  refine at_seq ?_
  refine at_region ?_
  refine wl_read rfl rfl rfl ((yp_eql rfl rfl rfl).2 (by omega)) ?_
  refine wl_read rfl rfl rfl (yl_assign rfl rfl) ?_
  refine wl_nil ?_
  refine at_keep (Keep.cons 0 rfl (Keep.cons 1 rfl (Keep.cons 2 rfl (Keep.cons 5 rfl (Keep.cons 6 rfl (Keep.cons 7 rfl (Keep.cons 34 rfl (Keep.cons 35 rfl Keep.nil)))))))) ?_
  refine at_false rfl ?_
  refine at_seq ?_
  refine at_seq ?_
  refine at_region ?_
  refine wl_read rfl rfl rfl ((yp_eql rfl rfl rfl).2 (by omega)) ?_
  refine wl_read rfl rfl rfl (yl_assign rfl rfl) ?_
  refine wl_nil ?_
  refine at_keep (Keep.cons 0 rfl (Keep.cons 1 rfl (Keep.cons 2 rfl (Keep.cons 5 rfl (Keep.cons 6 rfl (Keep.cons 7 rfl (Keep.cons 34 rfl (Keep.cons 35 rfl (Keep.cons 54 rfl Keep.nil))))))))) ?_
  refine at_false rfl ?_
  refine at_seq ?_
  refine at_region ?_
  refine wl_read rfl rfl rfl ((yp_eql rfl rfl rfl).2 (by omega)) ?_
  refine wl_read rfl rfl rfl (yl_assign rfl rfl) ?_
  refine wl_nil ?_
  refine at_keep (Keep.cons 0 rfl (Keep.cons 1 rfl (Keep.cons 2 rfl (Keep.cons 5 rfl (Keep.cons 6 rfl (Keep.cons 7 rfl (Keep.cons 34 rfl (Keep.cons 35 rfl (Keep.cons 54 rfl Keep.nil))))))))) ?_
  refine at_false rfl ?_
  refine at_region ?_
  refine wl_read rfl rfl rfl ((yp_eql rfl rfl rfl).2 (by omega)) ?_
  refine wl_read rfl rfl rfl (yl_assign rfl rfl) ?_
  refine wl_nil ?_
  refine at_keep (Keep.cons 0 rfl (Keep.cons 1 rfl (Keep.cons 2 rfl (Keep.cons 5 rfl (Keep.cons 6 rfl (Keep.cons 7 rfl (Keep.cons 34 rfl (Keep.cons 35 rfl (Keep.cons 54 rfl Keep.nil))))))))) ?_
  refine at_false rfl ?_
  refine at_seq ?_
  refine at_region ?_
  refine wl_read rfl rfl rfl ((yp_eql rfl rfl rfl).2 (by omega)) ?_
  refine wl_read rfl rfl rfl (yl_assign rfl rfl) ?_
  refine wl_nil ?_
  refine at_keep (Keep.cons 0 rfl (Keep.cons 1 rfl (Keep.cons 2 rfl (Keep.cons 5 rfl (Keep.cons 6 rfl (Keep.cons 7 rfl (Keep.cons 34 rfl (Keep.cons 35 rfl (Keep.cons 54 rfl (Keep.cons 77 rfl Keep.nil)))))))))) ?_
  refine at_false rfl ?_
  refine at_seq ?_
  refine at_region ?_
  refine wl_read rfl rfl rfl ((yp_eql rfl rfl rfl).2 (by omega)) ?_
  refine wl_read rfl rfl rfl (yl_assign rfl rfl) ?_
  refine wl_nil ?_
  refine at_keep (Keep.cons 0 rfl (Keep.cons 1 rfl (Keep.cons 2 rfl (Keep.cons 5 rfl (Keep.cons 6 rfl (Keep.cons 7 rfl (Keep.cons 34 rfl (Keep.cons 35 rfl (Keep.cons 54 rfl (Keep.cons 77 rfl (Keep.cons 99 rfl Keep.nil))))))))))) ?_
  refine at_false rfl ?_
  refine at_seq ?_
  refine at_region ?_
  refine wl_read rfl rfl rfl ((yp_eql rfl rfl rfl).2 (by omega)) ?_
  refine wl_read rfl rfl rfl (yl_assign rfl rfl) ?_
  refine wl_nil ?_
  refine at_keep (Keep.cons 0 rfl (Keep.cons 1 rfl (Keep.cons 2 rfl (Keep.cons 5 rfl (Keep.cons 6 rfl (Keep.cons 7 rfl (Keep.cons 34 rfl (Keep.cons 35 rfl (Keep.cons 54 rfl (Keep.cons 77 rfl (Keep.cons 99 rfl (Keep.cons 108 rfl Keep.nil)))))))))))) ?_
  refine at_false rfl ?_
  refine at_skip ?_
  refine at_inBlock ?_
  refine at_seq ?_
  refine at_heap (fun _ hw => hw.front2) ?_
  refine at_open (fun _ hw => Chn.opens hw) (fun x => ?_)
  obtain ⟨A9, c9⟩ := x
  refine at_region ?_
  refine wl_read rfl rfl rfl (yl_move rfl rfl) ?_
  refine wl_read rfl rfl rfl (yl_move rfl rfl) ?_
  refine wl_call rfl rfl rfl (en_call rfl rfl) (at_at s.p g j _ _ (CellAt.bk 0 rfl rfl) (Rd.of_sl 1 rfl) (okP hs (by omega) 4 rfl) hj) ?_
  rintro _ _ ⟨A1, c1, rfl, rfl⟩
  refine wl_read rfl rfl rfl (yl_move rfl rfl) ?_
  refine wl_read rfl rfl rfl (yl_extract rfl rfl rfl) ?_
  refine wl_read rfl rfl rfl (yl_extract rfl rfl rfl) ?_
  refine wl_eff rfl rfl rfl (ef_alloc (cs := [.int .i64 0, .int .i64 0, .slice none 0 0]) (z := .agg #[.int .i64 0, .int .i64 0, .slice none 0 0]) rfl (by kernel_rfl) rfl) ?_
  rintro _ _ ⟨g18_6, rfl, rfl⟩
  refine wl_store rfl rfl (es_at0 (es_storeN 0 rfl rfl rfl rfl (by kernel_rfl) rfl rfl)) ?_
  refine wl_read rfl rfl rfl (yl_assign rfl rfl) ?_
  refine wl_nil ?_
  refine at_keep (Keep.cons 0 rfl (Keep.cons 1 rfl (Keep.cons 2 rfl (Keep.cons 5 rfl (Keep.cons 6 rfl (Keep.cons 7 rfl (Keep.cons 14 rfl (Keep.cons 15 rfl (Keep.cons 34 rfl (Keep.cons 35 rfl (Keep.cons 54 rfl (Keep.cons 77 rfl (Keep.cons 99 rfl (Keep.cons 108 rfl Keep.nil)))))))))))))) ?_
  refine at_seq ?_
  refine at_heap (fun _ hw => hw.front3.front3) ?_
  refine at_heap (fun _ hw => Chn.closes (ms := s.p) (k := s.k) hw) ?_
  refine at_heap (fun _ hw => hw.front3) ?_
  refine at_open (fun _ hw => Chn.opens hw) (fun x => ?_)
  obtain ⟨A8, c8⟩ := x
  refine at_region ?_
  refine wl_read rfl rfl rfl (yl_move rfl rfl) ?_
  refine wl_read rfl rfl rfl (yl_move rfl rfl) ?_
  refine wl_call rfl rfl rfl (en_call rfl rfl) (rat_at s.q r j _ _ (CellAt.bk 0 rfl rfl) (Rd.of_sl 1 rfl) (okQ hs (by omega) 6 rfl) (by omega)) ?_
  rintro _ _ ⟨A2, c2, rfl, rfl⟩
  refine wl_read rfl rfl rfl (yl_move rfl rfl) ?_
  refine wl_read rfl rfl rfl (yl_extract rfl rfl rfl) ?_
  refine wl_read rfl rfl rfl (yl_extract rfl rfl rfl) ?_
  refine wl_eff rfl rfl rfl (ef_alloc (cs := [.int .i64 0, .int .i64 0, .slice none 0 0]) (z := .agg #[.int .i64 0, .int .i64 0, .slice none 0 0]) rfl (by kernel_rfl) rfl) ?_
  rintro _ _ ⟨g19_6, rfl, rfl⟩
  refine wl_store rfl rfl (es_at0 (es_storeN 0 rfl rfl rfl rfl (by kernel_rfl) rfl rfl)) ?_
  refine wl_read rfl rfl rfl (yl_assign rfl rfl) ?_
  refine wl_nil ?_
  refine at_keep (Keep.cons 0 rfl (Keep.cons 1 rfl (Keep.cons 2 rfl (Keep.cons 5 rfl (Keep.cons 6 rfl (Keep.cons 7 rfl (Keep.cons 14 rfl (Keep.cons 15 rfl (Keep.cons 16 rfl (Keep.cons 17 rfl (Keep.cons 34 rfl (Keep.cons 35 rfl (Keep.cons 54 rfl (Keep.cons 77 rfl (Keep.cons 99 rfl (Keep.cons 108 rfl Keep.nil)))))))))))))))) ?_
  refine at_seq ?_
  refine at_heap (fun _ hw => hw.front3.front3) ?_
  refine at_heap (fun _ hw => Chn.closes (ms := s.q) (k := s.k) hw) ?_
  refine at_region ?_
  refine wl_read rfl rfl rfl (yl_move rfl rfl) ?_
  refine wl_read rfl rfl rfl (yl_move rfl rfl) ?_
  refine wl_read rfl rfl rfl ((yp_eqb rfl rfl rfl Try.underlying4).1 rfl) ?_
  refine wl_read rfl rfl rfl (yl_move rfl rfl) ?_
  refine wl_read rfl rfl rfl (yl_loadBk 4 rfl rfl rfl Try.underlying33 rfl (by kernel_rfl)) ?_
  refine wl_read rfl rfl rfl (yl_loadBk 1 rfl rfl rfl Try.underlying33 rfl (by kernel_rfl)) ?_
  refine wl_call rfl rfl rfl (en_call rfl rfl) (message_fn ((at_ s.p j).cp A1 c1) ((at_ s.q j).cp A2 c2) _ _ (Rd.of_sl (xs := (at_ s.p j).bs) 5 rfl) (Rd.of_sl (xs := (at_ s.q j).bs) 2 rfl)) ?_
  rintro _ _ ⟨rfl, rfl⟩
  have heq : ((at_ s.p j).cp A1 c1).abs = ((at_ s.q j).cp A2 c2).abs := by rw [Msg.abs_cp, Msg.abs_cp]; exact hs.at_ j hj
  rw [decide_eq_true heq]
  refine wl_read rfl rfl rfl (yl_pickT rfl rfl rfl) ?_
  refine wl_read rfl rfl rfl (yl_assign rfl rfl) ?_
  refine wl_nil ?_
  refine at_keep (Keep.cons 0 rfl (Keep.cons 1 rfl (Keep.cons 2 rfl (Keep.cons 5 rfl (Keep.cons 6 rfl (Keep.cons 7 rfl (Keep.cons 14 rfl (Keep.cons 15 rfl (Keep.cons 16 rfl (Keep.cons 17 rfl (Keep.cons 34 rfl (Keep.cons 35 rfl (Keep.cons 54 rfl (Keep.cons 77 rfl (Keep.cons 99 rfl (Keep.cons 108 rfl Keep.nil)))))))))))))))) ?_
  refine at_retH (fun _ hw => hw.front7.front1.front4.drop3.drop3.drop3.drop3.drop3) Try.func18 (res1 rfl rfl) ?_
  exact ⟨rfl, s, hs.mono, fun _ h => h, rfl⟩
theorem step_atout (s : Sc) (n : Nat) (g r : Nat) (x : Raw) (b : World) (H : List Asr) (hs : SOk s n) (hn : n ≤ 100) (hR : Rd H x.A x.bs) (hi : I64 x.i) (hw : md x.what 8 = 7) (hio : ¬ (0 ≤ iv s x.i ∧ iv s x.i < (s.p.length : Int))) : Fn Try.prog 18 [.pointer (some ⟨g, 0, none⟩), .pointer (some ⟨r, 0, none⟩), .agg (Enc.cells x).toArray] b (Chn 58 g s.p s.k :: Chn 42 r s.q s.k :: Pool s.pl :: H) (fun v H' => v = .bool true ∧ ∃ s', SOk s' (n + 1) ∧ (∀ m, m ∈ s.pl → m ∈ s'.pl) ∧ H' = Chn 58 g s'.p s'.k :: Chn 42 r s'.q s'.k :: Pool s'.pl :: H) := by
  have hlen := hs.len
  have hlq := hs.lenq
  have hks := hs.ks
  have hkd := hs.kd
  have hkl := hs.kl
  have hkr := hs.kr
  have hm1 := md_bd x.i ((s.p.length : Int) + 2) (by omega)
  have hm1q := md_bd x.i ((s.q.length : Int) + 2) (by omega)
  have hm2 := md_bd (x.i.tdiv 100) 2 (by omega)
  have hq : -9223372036854775808 ≤ x.i.tdiv 100 ∧ x.i.tdiv 100 ≤ 9223372036854775807 := by
    obtain ⟨h1, h2⟩ := hi
    obtain ⟨h3, h4⟩ := tdiv_eq_if x.i 100 (by decide)
    rcases Int.le_total 0 x.i with h | h
    · have := h3 h; omega
    · have := h4 h; omega

  refine fn_of_at (by kernel_rfl) Try.func18 rfl Try.ntmps18 rfl rfl ?_
  refine at_seq ?_
  refine at_region ?_
  refine wl_eff rfl rfl rfl (ef_box rfl rfl rfl) ?_
  rintro _ _ ⟨g0, rfl, rfl⟩
  refine wl_read rfl rfl rfl (yl_assign rfl rfl) ?_
  refine wl_nil ?_
  refine at_keep (Keep.cons 0 rfl (Keep.cons 1 rfl (Keep.cons 2 rfl (Keep.cons 5 rfl (Keep.cons 6 rfl Keep.nil))))) ?_
  refine at_seq ?_
  refine at_heap (fun _ hw => hw.front2) ?_
  refine at_open (fun _ hw => Chn.opens hw) (fun x => ?_)
  obtain ⟨A9, c9⟩ := x
  refine at_draw0 (.fl 0 (.fl 1 (.fl 2 (.fl 3 (.fl 4 (.fl 5 (.fl 6 (.fl 7 (.fl 9 (.fl 10 (.fl 11 (.ef 8 (.ef 12 (.fl 13 (.fl 14 .nil))))))))))))))) (by kernel_rfl) (by kernel_rfl) ?_
  refine wt_read rfl rfl rfl rfl (yl_fieldB rfl rfl Try.underlying45 rfl (by kernel_rfl) rfl) ?_
  refine wt_read rfl rfl rfl rfl (yl_load rfl rfl Try.underlying3 rfl (CellAt.bk 2 rfl rfl)) ?_
  refine wt_read rfl rfl rfl rfl (yl_move rfl rfl) ?_
  refine wt_read rfl rfl rfl rfl (yl_nilCheck rfl rfl) ?_
  refine wt_read rfl rfl rfl rfl (yl_fieldB rfl rfl Try.underlying42 rfl (by kernel_rfl) rfl) ?_
  refine wt_read rfl rfl rfl rfl (yl_load rfl rfl Try.underlying40 rfl (CellAt.bk 0 rfl rfl)) ?_
  refine wt_read rfl rfl rfl rfl (yl_len rfl rfl Try.underlying40) ?_
  refine wt_read rfl rfl rfl rfl (yl_add rfl rfl rfl (w64 (by omega) (by omega))) ?_
  refine wt_read rfl rfl rfl rfl (yl_fieldB rfl rfl Try.underlying45 rfl (by kernel_rfl) rfl) ?_
  refine wt_read rfl rfl rfl rfl (yl_load rfl rfl Try.underlying3 rfl (CellAt.bk 2 rfl rfl)) ?_
  refine wt_read rfl rfl rfl rfl (yl_quo rfl rfl rfl (by decide) (w64 hq.1 hq.2)) ?_
  refine wt_call rfl rfl rfl rfl (en_call rfl rfl) (mod_fn _ _ _ _ (by omega) (by omega)) ?_
  rintro _ _ ⟨rfl, rfl⟩
  refine ⟨⟨[], rfl⟩, ?_⟩
  refine wt_call rfl rfl rfl rfl (en_call rfl rfl) (mod_fn _ _ _ _ (by decide) (by decide)) ?_
  rintro _ _ ⟨rfl, rfl⟩
  refine ⟨⟨[], rfl⟩, ?_⟩
  refine wt_read rfl rfl rfl rfl (yl_sub rfl rfl rfl (w64 (by omega) (by omega))) ?_
  refine wt_read rfl rfl rfl rfl (yl_assign rfl rfl) ?_
  refine wt_nil ?_
  refine at_keep (Keep.cons 0 rfl (Keep.cons 1 rfl (Keep.cons 2 rfl (Keep.cons 5 rfl (Keep.cons 6 rfl (Keep.cons 7 rfl Keep.nil)))))) ?_
  refine at_seq ?_
  refine at_seq ?_
  refine at_heap (fun _ hw => hw.front1.front1) ?_
  refine at_heap (fun _ hw => Chn.closes (ms := s.q) (k := s.k) hw) ?_
  rw [hlq]
  rw [show md x.i ((s.p.length : Int) + 2) - md (x.i.tdiv 100) 2 = iv s x.i from rfl]
  refine at_region ?_
  refine wl_read rfl rfl rfl (yl_fieldB rfl rfl Try.underlying45 rfl (by kernel_rfl) rfl) ?_
  refine wl_read rfl rfl rfl (yl_load rfl rfl Try.underlying3 rfl (CellAt.bk 1 rfl rfl)) ?_
  refine wl_call rfl rfl rfl (en_call rfl rfl) (mod_fn _ _ _ _ (by decide) (by decide)) ?_
  rintro _ _ ⟨rfl, rfl⟩
  refine wl_nil ?_
  refine at_keep (Keep.cons 0 rfl (Keep.cons 1 rfl (Keep.cons 2 rfl (Keep.cons 5 rfl (Keep.cons 6 rfl (Keep.cons 7 rfl (Keep.cons 34 rfl Keep.nil))))))) ?_
  refine at_block ?_
  refine at_seq ?_
  refine at_region ?_
  refine wl_read rfl rfl rfl ((yp_eql rfl rfl rfl).2 (by omega)) ?_
  refine wl_read rfl rfl rfl (yl_assign rfl rfl) ?_
  refine wl_nil ?_
  refine at_keep (Keep.cons 0 rfl (Keep.cons 1 rfl (Keep.cons 2 rfl (Keep.cons 5 rfl (Keep.cons 6 rfl (Keep.cons 7 rfl (Keep.cons 34 rfl (Keep.cons 35 rfl Keep.nil)))))))) ?_
  refine at_false rfl ?_
  refine at_seq ?_
  refine at_seq ?_
  refine at_region ?_
  refine wl_read rfl rfl rfl ((yp_eql rfl rfl rfl).2 (by omega)) ?_
  refine wl_read rfl rfl rfl (yl_assign rfl rfl) ?_
  refine wl_nil ?_
  refine at_keep (Keep.cons 0 rfl (Keep.cons 1 rfl (Keep.cons 2 rfl (Keep.cons 5 rfl (Keep.cons 6 rfl (Keep.cons 7 rfl (Keep.cons 34 rfl (Keep.cons 35 rfl (Keep.cons 54 rfl Keep.nil))))))))) ?_
  refine at_false rfl ?_
  refine at_seq ?_
  refine at_region ?_
  refine wl_read rfl rfl rfl ((yp_eql rfl rfl rfl).2 (by omega)) ?_
  refine wl_read rfl rfl rfl (yl_assign rfl rfl) ?_
  refine wl_nil ?_
  refine at_keep (Keep.cons 0 rfl (Keep.cons 1 rfl (Keep.cons 2 rfl (Keep.cons 5 rfl (Keep.cons 6 rfl (Keep.cons 7 rfl (Keep.cons 34 rfl (Keep.cons 35 rfl (Keep.cons 54 rfl Keep.nil))))))))) ?_
  refine at_false rfl ?_
  refine at_region ?_
  refine wl_read rfl rfl rfl ((yp_eql rfl rfl rfl).2 (by omega)) ?_
  refine wl_read rfl rfl rfl (yl_assign rfl rfl) ?_
  refine wl_nil ?_
  refine at_keep (Keep.cons 0 rfl (Keep.cons 1 rfl (Keep.cons 2 rfl (Keep.cons 5 rfl (Keep.cons 6 rfl (Keep.cons 7 rfl (Keep.cons 34 rfl (Keep.cons 35 rfl (Keep.cons 54 rfl Keep.nil))))))))) ?_
  refine at_false rfl ?_
  refine at_seq ?_
  refine at_region ?_
  refine wl_read rfl rfl rfl ((yp_eql rfl rfl rfl).2 (by omega)) ?_
  refine wl_read rfl rfl rfl (yl_assign rfl rfl) ?_
  refine wl_nil ?_
  refine at_keep (Keep.cons 0 rfl (Keep.cons 1 rfl (Keep.cons 2 rfl (Keep.cons 5 rfl (Keep.cons 6 rfl (Keep.cons 7 rfl (Keep.cons 34 rfl (Keep.cons 35 rfl (Keep.cons 54 rfl (Keep.cons 77 rfl Keep.nil)))))))))) ?_
  refine at_false rfl ?_
  refine at_seq ?_
  refine at_region ?_
  refine wl_read rfl rfl rfl ((yp_eql rfl rfl rfl).2 (by omega)) ?_
  refine wl_read rfl rfl rfl (yl_assign rfl rfl) ?_
  refine wl_nil ?_
  refine at_keep (Keep.cons 0 rfl (Keep.cons 1 rfl (Keep.cons 2 rfl (Keep.cons 5 rfl (Keep.cons 6 rfl (Keep.cons 7 rfl (Keep.cons 34 rfl (Keep.cons 35 rfl (Keep.cons 54 rfl (Keep.cons 77 rfl (Keep.cons 99 rfl Keep.nil))))))))))) ?_
  refine at_false rfl ?_
  refine at_seq ?_
  refine at_region ?_
  refine wl_read rfl rfl rfl ((yp_eql rfl rfl rfl).2 (by omega)) ?_
  refine wl_read rfl rfl rfl (yl_assign rfl rfl) ?_
  refine wl_nil ?_
  refine at_keep (Keep.cons 0 rfl (Keep.cons 1 rfl (Keep.cons 2 rfl (Keep.cons 5 rfl (Keep.cons 6 rfl (Keep.cons 7 rfl (Keep.cons 34 rfl (Keep.cons 35 rfl (Keep.cons 54 rfl (Keep.cons 77 rfl (Keep.cons 99 rfl (Keep.cons 108 rfl Keep.nil)))))))))))) ?_
  refine at_false rfl ?_
  refine at_skip ?_
  refine at_inBlock ?_
  refine at_seq ?_
  refine at_heap (fun _ hw => hw.front2) ?_
  refine at_open (fun _ hw => Chn.opens hw) (fun x => ?_)
  obtain ⟨A9, c9⟩ := x
  refine at_region ?_
  refine wl_read rfl rfl rfl (yl_move rfl rfl) ?_
  refine wl_read rfl rfl rfl (yl_move rfl rfl) ?_
  refine wl_call rfl rfl rfl (en_call rfl rfl) (at_out g _ _ _ (CellAt.bk 0 rfl rfl) hio) ?_
  rintro _ _ ⟨rfl, rfl⟩
  refine wl_read rfl rfl rfl (yl_move rfl rfl) ?_
  refine wl_read rfl rfl rfl (yl_extract rfl rfl rfl) ?_
  refine wl_read rfl rfl rfl (yl_extract rfl rfl rfl) ?_
  refine wl_eff rfl rfl rfl (ef_alloc (cs := [.int .i64 0, .int .i64 0, .slice none 0 0]) (z := .agg #[.int .i64 0, .int .i64 0, .slice none 0 0]) rfl (by kernel_rfl) rfl) ?_
  rintro _ _ ⟨g18_6, rfl, rfl⟩
  refine wl_store rfl rfl (es_at0 (es_storeN 0 rfl rfl rfl rfl (by kernel_rfl) rfl rfl)) ?_
  refine wl_read rfl rfl rfl (yl_assign rfl rfl) ?_
  refine wl_nil ?_
  refine at_keep (Keep.cons 0 rfl (Keep.cons 1 rfl (Keep.cons 2 rfl (Keep.cons 5 rfl (Keep.cons 6 rfl (Keep.cons 7 rfl (Keep.cons 14 rfl (Keep.cons 15 rfl (Keep.cons 34 rfl (Keep.cons 35 rfl (Keep.cons 54 rfl (Keep.cons 77 rfl (Keep.cons 99 rfl (Keep.cons 108 rfl Keep.nil)))))))))))))) ?_
  refine at_seq ?_
  refine at_heap (fun _ hw => hw.front2.front2) ?_
  refine at_heap (fun _ hw => Chn.closes (ms := s.p) (k := s.k) hw) ?_
  refine at_heap (fun _ hw => hw.front2) ?_
  refine at_open (fun _ hw => Chn.opens hw) (fun x => ?_)
  obtain ⟨A8, c8⟩ := x
  refine at_region ?_
  refine wl_read rfl rfl rfl (yl_move rfl rfl) ?_
  refine wl_read rfl rfl rfl (yl_move rfl rfl) ?_
  refine wl_call rfl rfl rfl (en_call rfl rfl) (rat_out r _ _ _ (CellAt.bk 0 rfl rfl) (by rw [hlq]; exact hio)) ?_
  rintro _ _ ⟨rfl, rfl⟩
  refine wl_read rfl rfl rfl (yl_move rfl rfl) ?_
  refine wl_read rfl rfl rfl (yl_extract rfl rfl rfl) ?_
  refine wl_read rfl rfl rfl (yl_extract rfl rfl rfl) ?_
  refine wl_eff rfl rfl rfl (ef_alloc (cs := [.int .i64 0, .int .i64 0, .slice none 0 0]) (z := .agg #[.int .i64 0, .int .i64 0, .slice none 0 0]) rfl (by kernel_rfl) rfl) ?_
  rintro _ _ ⟨g19_6, rfl, rfl⟩
  refine wl_store rfl rfl (es_at0 (es_storeN 0 rfl rfl rfl rfl (by kernel_rfl) rfl rfl)) ?_
  refine wl_read rfl rfl rfl (yl_assign rfl rfl) ?_
  refine wl_nil ?_
  refine at_keep (Keep.cons 0 rfl (Keep.cons 1 rfl (Keep.cons 2 rfl (Keep.cons 5 rfl (Keep.cons 6 rfl (Keep.cons 7 rfl (Keep.cons 14 rfl (Keep.cons 15 rfl (Keep.cons 16 rfl (Keep.cons 17 rfl (Keep.cons 34 rfl (Keep.cons 35 rfl (Keep.cons 54 rfl (Keep.cons 77 rfl (Keep.cons 99 rfl (Keep.cons 108 rfl Keep.nil)))))))))))))))) ?_
  refine at_seq ?_
  refine at_heap (fun _ hw => hw.front2.front2) ?_
  refine at_heap (fun _ hw => Chn.closes (ms := s.q) (k := s.k) hw) ?_
  refine at_region ?_
  refine wl_read rfl rfl rfl (yl_move rfl rfl) ?_
  refine wl_read rfl rfl rfl (yl_move rfl rfl) ?_
  refine wl_read rfl rfl rfl ((yp_eqb rfl rfl rfl Try.underlying4).1 rfl) ?_
  refine wl_read rfl rfl rfl (yl_move rfl rfl) ?_
  refine wl_read rfl rfl rfl (yl_loadBk 3 rfl rfl rfl Try.underlying33 rfl (by kernel_rfl)) ?_
  refine wl_read rfl rfl rfl (yl_loadBk 1 rfl rfl rfl Try.underlying33 rfl (by kernel_rfl)) ?_
  refine wl_call rfl rfl rfl (en_call rfl rfl) (message_fn Msg.zero Msg.zero _ _ Rd.nil Rd.nil) ?_
  rintro _ _ ⟨rfl, rfl⟩
  rw [decide_eq_true rfl]
  refine wl_read rfl rfl rfl (yl_pickT rfl rfl rfl) ?_
  refine wl_read rfl rfl rfl (yl_assign rfl rfl) ?_
  refine wl_nil ?_
  refine at_keep (Keep.cons 0 rfl (Keep.cons 1 rfl (Keep.cons 2 rfl (Keep.cons 5 rfl (Keep.cons 6 rfl (Keep.cons 7 rfl (Keep.cons 14 rfl (Keep.cons 15 rfl (Keep.cons 16 rfl (Keep.cons 17 rfl (Keep.cons 34 rfl (Keep.cons 35 rfl (Keep.cons 54 rfl (Keep.cons 77 rfl (Keep.cons 99 rfl (Keep.cons 108 rfl Keep.nil)))))))))))))))) ?_
  refine at_retH (fun _ hw => hw.front5.front1.front3.drop3.drop3.drop3) Try.func18 (res1 rfl rfl) ?_
  exact ⟨rfl, s, hs.mono, fun _ h => h, rfl⟩
theorem step_losein (s : Sc) (n : Nat) (g r : Nat) (x : Raw) (b : World) (H : List Asr) (hs : SOk s n) (hn : n ≤ 100) (hR : Rd H x.A x.bs) (hi : I64 x.i) (hw : md x.what 8 = 5) (j : Nat) (hj : j < s.p.length) (hij : iv s x.i = (j : Int)) : Fn Try.prog 18 [.pointer (some ⟨g, 0, none⟩), .pointer (some ⟨r, 0, none⟩), .agg (Enc.cells x).toArray] b (Chn 58 g s.p s.k :: Chn 42 r s.q s.k :: Pool s.pl :: H) (fun v H' => v = .bool true ∧ ∃ s', SOk s' (n + 1) ∧ (∀ m, m ∈ s.pl → m ∈ s'.pl) ∧ H' = Chn 58 g s'.p s'.k :: Chn 42 r s'.q s'.k :: Pool s'.pl :: H) := by
  have hlen := hs.len
  have hlq := hs.lenq
  have hks := hs.ks
  have hkd := hs.kd
  have hkl := hs.kl
  have hkr := hs.kr
  have hm1 := md_bd x.i ((s.p.length : Int) + 2) (by omega)
  have hm1q := md_bd x.i ((s.q.length : Int) + 2) (by omega)
  have hm2 := md_bd (x.i.tdiv 100) 2 (by omega)
  have hq : -9223372036854775808 ≤ x.i.tdiv 100 ∧ x.i.tdiv 100 ≤ 9223372036854775807 := by
    obtain ⟨h1, h2⟩ := hi
    obtain ⟨h3, h4⟩ := tdiv_eq_if x.i 100 (by decide)
    rcases Int.le_total 0 x.i with h | h
    · have := h3 h; omega
    · have := h4 h; omega

  have hjq : j < s.q.length := by omega
  refine fn_of_at (by kernel_rfl) Try.func18 rfl Try.ntmps18 rfl rfl ?_
  refine at_seq ?_
  refine at_region ?_
  refine wl_eff rfl rfl rfl (ef_box rfl rfl rfl) ?_
  rintro _ _ ⟨g0, rfl, rfl⟩
  refine wl_read rfl rfl rfl (yl_assign rfl rfl) ?_
  refine wl_nil ?_
  refine at_keep (Keep.cons 0 rfl (Keep.cons 1 rfl (Keep.cons 2 rfl (Keep.cons 5 rfl (Keep.cons 6 rfl Keep.nil))))) ?_
  refine at_seq ?_
  refine at_heap (fun _ hw => hw.front2) ?_
  refine at_open (fun _ hw => Chn.opens hw) (fun x => ?_)
  obtain ⟨A9, c9⟩ := x
  refine at_draw0 (.fl 0 (.fl 1 (.fl 2 (.fl 3 (.fl 4 (.fl 5 (.fl 6 (.fl 7 (.fl 9 (.fl 10 (.fl 11 (.ef 8 (.ef 12 (.fl 13 (.fl 14 .nil))))))))))))))) (by kernel_rfl) (by kernel_rfl) ?_
  refine wt_read rfl rfl rfl rfl (yl_fieldB rfl rfl Try.underlying45 rfl (by kernel_rfl) rfl) ?_
  refine wt_read rfl rfl rfl rfl (yl_load rfl rfl Try.underlying3 rfl (CellAt.bk 2 rfl rfl)) ?_
  refine wt_read rfl rfl rfl rfl (yl_move rfl rfl) ?_
  refine wt_read rfl rfl rfl rfl (yl_nilCheck rfl rfl) ?_
  refine wt_read rfl rfl rfl rfl (yl_fieldB rfl rfl Try.underlying42 rfl (by kernel_rfl) rfl) ?_
  refine wt_read rfl rfl rfl rfl (yl_load rfl rfl Try.underlying40 rfl (CellAt.bk 0 rfl rfl)) ?_
  refine wt_read rfl rfl rfl rfl (yl_len rfl rfl Try.underlying40) ?_
  refine wt_read rfl rfl rfl rfl (yl_add rfl rfl rfl (w64 (by omega) (by omega))) ?_
  refine wt_read rfl rfl rfl rfl (yl_fieldB rfl rfl Try.underlying45 rfl (by kernel_rfl) rfl) ?_
  refine wt_read rfl rfl rfl rfl (yl_load rfl rfl Try.underlying3 rfl (CellAt.bk 2 rfl rfl)) ?_
  refine wt_read rfl rfl rfl rfl (yl_quo rfl rfl rfl (by decide) (w64 hq.1 hq.2)) ?_
  refine wt_call rfl rfl rfl rfl (en_call rfl rfl) (mod_fn _ _ _ _ (by omega) (by omega)) ?_
  rintro _ _ ⟨rfl, rfl⟩
  refine ⟨⟨[], rfl⟩, ?_⟩
  refine wt_call rfl rfl rfl rfl (en_call rfl rfl) (mod_fn _ _ _ _ (by decide) (by decide)) ?_
  rintro _ _ ⟨rfl, rfl⟩
  refine ⟨⟨[], rfl⟩, ?_⟩
  refine wt_read rfl rfl rfl rfl (yl_sub rfl rfl rfl (w64 (by omega) (by omega))) ?_
  refine wt_read rfl rfl rfl rfl (yl_assign rfl rfl) ?_
  refine wt_nil ?_
  refine at_keep (Keep.cons 0 rfl (Keep.cons 1 rfl (Keep.cons 2 rfl (Keep.cons 5 rfl (Keep.cons 6 rfl (Keep.cons 7 rfl Keep.nil)))))) ?_
  refine at_seq ?_
  refine at_seq ?_
  refine at_heap (fun _ hw => hw.front1.front1) ?_
  refine at_heap (fun _ hw => Chn.closes (ms := s.q) (k := s.k) hw) ?_
  rw [hlq]
  rw [show md x.i ((s.p.length : Int) + 2) - md (x.i.tdiv 100) 2 = iv s x.i from rfl]
  rw [hij]
  refine at_region ?_
  refine wl_read rfl rfl rfl (yl_fieldB rfl rfl Try.underlying45 rfl (by kernel_rfl) rfl) ?_
  refine wl_read rfl rfl rfl (yl_load rfl rfl Try.underlying3 rfl (CellAt.bk 1 rfl rfl)) ?_
  refine wl_call rfl rfl rfl (en_call rfl rfl) (mod_fn _ _ _ _ (by decide) (by decide)) ?_
  rintro _ _ ⟨rfl, rfl⟩
  refine wl_nil ?_
  refine at_keep (Keep.cons 0 rfl (Keep.cons 1 rfl (Keep.cons 2 rfl (Keep.cons 5 rfl (Keep.cons 6 rfl (Keep.cons 7 rfl (Keep.cons 34 rfl Keep.nil))))))) ?_
  refine at_block ?_
  refine at_seq ?_
  refine at_region ?_
  refine wl_read rfl rfl rfl ((yp_eql rfl rfl rfl).2 (by omega)) ?_
  refine wl_read rfl rfl rfl (yl_assign rfl rfl) ?_
  refine wl_nil ?_
  refine at_keep (Keep.cons 0 rfl (Keep.cons 1 rfl (Keep.cons 2 rfl (Keep.cons 5 rfl (Keep.cons 6 rfl (Keep.cons 7 rfl (Keep.cons 34 rfl (Keep.cons 35 rfl Keep.nil)))))))) ?_
  refine at_false rfl ?_
  refine at_seq ?_
  refine at_seq ?_
  refine at_region ?_
  refine wl_read rfl rfl rfl ((yp_eql rfl rfl rfl).2 (by omega)) ?_
  refine wl_read rfl rfl rfl (yl_assign rfl rfl) ?_
  refine wl_nil ?_
  refine at_keep (Keep.cons 0 rfl (Keep.cons 1 rfl (Keep.cons 2 rfl (Keep.cons 5 rfl (Keep.cons 6 rfl (Keep.cons 7 rfl (Keep.cons 34 rfl (Keep.cons 35 rfl (Keep.cons 54 rfl Keep.nil))))))))) ?_
  refine at_false rfl ?_
  refine at_seq ?_
  refine at_region ?_
  refine wl_read rfl rfl rfl ((yp_eql rfl rfl rfl).2 (by omega)) ?_
  refine wl_read rfl rfl rfl (yl_assign rfl rfl) ?_
  refine wl_nil ?_
  refine at_keep (Keep.cons 0 rfl (Keep.cons 1 rfl (Keep.cons 2 rfl (Keep.cons 5 rfl (Keep.cons 6 rfl (Keep.cons 7 rfl (Keep.cons 34 rfl (Keep.cons 35 rfl (Keep.cons 54 rfl Keep.nil))))))))) ?_
  refine at_false rfl ?_
  refine at_region ?_
  refine wl_read rfl rfl rfl ((yp_eql rfl rfl rfl).2 (by omega)) ?_
  refine wl_read rfl rfl rfl (yl_assign rfl rfl) ?_
  refine wl_nil ?_
  refine at_keep (Keep.cons 0 rfl (Keep.cons 1 rfl (Keep.cons 2 rfl (Keep.cons 5 rfl (Keep.cons 6 rfl (Keep.cons 7 rfl (Keep.cons 34 rfl (Keep.cons 35 rfl (Keep.cons 54 rfl Keep.nil))))))))) ?_
  refine at_false rfl ?_
  refine at_seq ?_
  refine at_region ?_
  refine wl_read rfl rfl rfl ((yp_eql rfl rfl rfl).2 (by omega)) ?_
  refine wl_read rfl rfl rfl (yl_assign rfl rfl) ?_
  refine wl_nil ?_
  refine at_keep (Keep.cons 0 rfl (Keep.cons 1 rfl (Keep.cons 2 rfl (Keep.cons 5 rfl (Keep.cons 6 rfl (Keep.cons 7 rfl (Keep.cons 34 rfl (Keep.cons 35 rfl (Keep.cons 54 rfl (Keep.cons 77 rfl Keep.nil)))))))))) ?_
  refine at_false rfl ?_
  refine at_seq ?_
  refine at_region ?_
  refine wl_read rfl rfl rfl ((yp_eql rfl rfl rfl).1 (by omega)) ?_
  refine wl_read rfl rfl rfl (yl_assign rfl rfl) ?_
  refine wl_nil ?_
  refine at_keep (Keep.cons 0 rfl (Keep.cons 1 rfl (Keep.cons 2 rfl (Keep.cons 5 rfl (Keep.cons 6 rfl (Keep.cons 7 rfl (Keep.cons 34 rfl (Keep.cons 35 rfl (Keep.cons 54 rfl (Keep.cons 77 rfl (Keep.cons 99 rfl Keep.nil))))))))))) ?_
  refine at_true rfl ?_
  refine at_seq ?_
  refine at_region ?_
  refine wl_read rfl rfl rfl (yl_move rfl rfl) ?_
  refine wl_read rfl rfl rfl (yl_move rfl rfl) ?_
  refine wl_heap (fun _ hw => hw.front2) ?_
  refine wl_call rfl rfl rfl (en_call rfl rfl) (lose_fn s.p s.k g _ _ j (okP hs (by omega) 2 rfl) hj (by omega)) ?_
  rintro _ _ ⟨rfl, rfl⟩
  refine wl_read rfl rfl rfl (yl_move rfl rfl) ?_
  refine wl_read rfl rfl rfl (yl_move rfl rfl) ?_
  refine wl_heap (fun _ hw => hw.front1) ?_
  refine wl_call rfl rfl rfl (en_call rfl rfl) (rlose_fn s.q s.k r _ _ j (okQ hs (by omega) 2 rfl) (by omega) (by omega)) ?_
  rintro _ _ ⟨rfl, rfl⟩
  refine wl_read rfl rfl rfl ((yp_eqb rfl rfl rfl Try.underlying4).1 rfl) ?_
  refine wl_read rfl rfl rfl (yl_assign rfl rfl) ?_
  refine wl_nil ?_
  refine at_keep (Keep.cons 0 rfl (Keep.cons 1 rfl (Keep.cons 2 rfl (Keep.cons 5 rfl (Keep.cons 6 rfl (Keep.cons 7 rfl (Keep.cons 34 rfl (Keep.cons 35 rfl (Keep.cons 54 rfl (Keep.cons 77 rfl (Keep.cons 99 rfl Keep.nil))))))))))) ?_
  refine at_retH (fun _ hw => hw.front3.front1.front2.drop3) Try.func18 (res1 rfl rfl) ?_
  exact ⟨rfl, ⟨s.p.eraseIdx j, s.q.eraseIdx j, { s.k with lost := s.k.lost + 1 }, s.pl⟩, hs.cut j hj _ (.inr rfl), fun _ h => h, rfl⟩
theorem step_loseout (s : Sc) (n : Nat) (g r : Nat) (x : Raw) (b : World) (H : List Asr) (hs : SOk s n) (hn : n ≤ 100) (hR : Rd H x.A x.bs) (hi : I64 x.i) (hw : md x.what 8 = 5) (hio : ¬ (0 ≤ iv s x.i ∧ iv s x.i < (s.p.length : Int))) : Fn Try.prog 18 [.pointer (some ⟨g, 0, none⟩), .pointer (some ⟨r, 0, none⟩), .agg (Enc.cells x).toArray] b (Chn 58 g s.p s.k :: Chn 42 r s.q s.k :: Pool s.pl :: H) (fun v H' => v = .bool true ∧ ∃ s', SOk s' (n + 1) ∧ (∀ m, m ∈ s.pl → m ∈ s'.pl) ∧ H' = Chn 58 g s'.p s'.k :: Chn 42 r s'.q s'.k :: Pool s'.pl :: H) := by
  have hlen := hs.len
  have hlq := hs.lenq
  have hks := hs.ks
  have hkd := hs.kd
  have hkl := hs.kl
  have hkr := hs.kr
  have hm1 := md_bd x.i ((s.p.length : Int) + 2) (by omega)
  have hm1q := md_bd x.i ((s.q.length : Int) + 2) (by omega)
  have hm2 := md_bd (x.i.tdiv 100) 2 (by omega)
  have hq : -9223372036854775808 ≤ x.i.tdiv 100 ∧ x.i.tdiv 100 ≤ 9223372036854775807 := by
    obtain ⟨h1, h2⟩ := hi
    obtain ⟨h3, h4⟩ := tdiv_eq_if x.i 100 (by decide)
    rcases Int.le_total 0 x.i with h | h
    · have := h3 h; omega
    · have := h4 h; omega

  refine fn_of_at (by kernel_rfl) Try.func18 rfl Try.ntmps18 rfl rfl ?_
  refine at_seq ?_
  refine at_region ?_
  refine wl_eff rfl rfl rfl (ef_box rfl rfl rfl) ?_
  rintro _ _ ⟨g0, rfl, rfl⟩
  refine wl_read rfl rfl rfl (yl_assign rfl rfl) ?_
  refine wl_nil ?_
  refine at_keep (Keep.cons 0 rfl (Keep.cons 1 rfl (Keep.cons 2 rfl (Keep.cons 5 rfl (Keep.cons 6 rfl Keep.nil))))) ?_
  refine at_seq ?_
  refine at_heap (fun _ hw => hw.front2) ?_
  refine at_open (fun _ hw => Chn.opens hw) (fun x => ?_)
  obtain ⟨A9, c9⟩ := x
  refine at_draw0 (.fl 0 (.fl 1 (.fl 2 (.fl 3 (.fl 4 (.fl 5 (.fl 6 (.fl 7 (.fl 9 (.fl 10 (.fl 11 (.ef 8 (.ef 12 (.fl 13 (.fl 14 .nil))))))))))))))) (by kernel_rfl) (by kernel_rfl) ?_
  refine wt_read rfl rfl rfl rfl (yl_fieldB rfl rfl Try.underlying45 rfl (by kernel_rfl) rfl) ?_
  refine wt_read rfl rfl rfl rfl (yl_load rfl rfl Try.underlying3 rfl (CellAt.bk 2 rfl rfl)) ?_
  refine wt_read rfl rfl rfl rfl (yl_move rfl rfl) ?_
  refine wt_read rfl rfl rfl rfl (yl_nilCheck rfl rfl) ?_
  refine wt_read rfl rfl rfl rfl (yl_fieldB rfl rfl Try.underlying42 rfl (by kernel_rfl) rfl) ?_
  refine wt_read rfl rfl rfl rfl (yl_load rfl rfl Try.underlying40 rfl (CellAt.bk 0 rfl rfl)) ?_
  refine wt_read rfl rfl rfl rfl (yl_len rfl rfl Try.underlying40) ?_
  refine wt_read rfl rfl rfl rfl (yl_add rfl rfl rfl (w64 (by omega) (by omega))) ?_
  refine wt_read rfl rfl rfl rfl (yl_fieldB rfl rfl Try.underlying45 rfl (by kernel_rfl) rfl) ?_
  refine wt_read rfl rfl rfl rfl (yl_load rfl rfl Try.underlying3 rfl (CellAt.bk 2 rfl rfl)) ?_
  refine wt_read rfl rfl rfl rfl (yl_quo rfl rfl rfl (by decide) (w64 hq.1 hq.2)) ?_
  refine wt_call rfl rfl rfl rfl (en_call rfl rfl) (mod_fn _ _ _ _ (by omega) (by omega)) ?_
  rintro _ _ ⟨rfl, rfl⟩
  refine ⟨⟨[], rfl⟩, ?_⟩
  refine wt_call rfl rfl rfl rfl (en_call rfl rfl) (mod_fn _ _ _ _ (by decide) (by decide)) ?_
  rintro _ _ ⟨rfl, rfl⟩
  refine ⟨⟨[], rfl⟩, ?_⟩
  refine wt_read rfl rfl rfl rfl (yl_sub rfl rfl rfl (w64 (by omega) (by omega))) ?_
  refine wt_read rfl rfl rfl rfl (yl_assign rfl rfl) ?_
  refine wt_nil ?_
  refine at_keep (Keep.cons 0 rfl (Keep.cons 1 rfl (Keep.cons 2 rfl (Keep.cons 5 rfl (Keep.cons 6 rfl (Keep.cons 7 rfl Keep.nil)))))) ?_
  refine at_seq ?_
  refine at_seq ?_
  refine at_heap (fun _ hw => hw.front1.front1) ?_
  refine at_heap (fun _ hw => Chn.closes (ms := s.q) (k := s.k) hw) ?_
  rw [hlq]
  rw [show md x.i ((s.p.length : Int) + 2) - md (x.i.tdiv 100) 2 = iv s x.i from rfl]
  refine at_region ?_
  refine wl_read rfl rfl rfl (yl_fieldB rfl rfl Try.underlying45 rfl (by kernel_rfl) rfl) ?_
  refine wl_read rfl rfl rfl (yl_load rfl rfl Try.underlying3 rfl (CellAt.bk 1 rfl rfl)) ?_
  refine wl_call rfl rfl rfl (en_call rfl rfl) (mod_fn _ _ _ _ (by decide) (by decide)) ?_
  rintro _ _ ⟨rfl, rfl⟩
  refine wl_nil ?_
  refine at_keep (Keep.cons 0 rfl (Keep.cons 1 rfl (Keep.cons 2 rfl (Keep.cons 5 rfl (Keep.cons 6 rfl (Keep.cons 7 rfl (Keep.cons 34 rfl Keep.nil))))))) ?_
  refine at_block ?_
  refine at_seq ?_
  refine at_region ?_
  refine wl_read rfl rfl rfl ((yp_eql rfl rfl rfl).2 (by omega)) ?_
  refine wl_read rfl rfl rfl (yl_assign rfl rfl) ?_
  refine wl_nil ?_
  refine at_keep (Keep.cons 0 rfl (Keep.cons 1 rfl (Keep.cons 2 rfl (Keep.cons 5 rfl (Keep.cons 6 rfl (Keep.cons 7 rfl (Keep.cons 34 rfl (Keep.cons 35 rfl Keep.nil)))))))) ?_
  refine at_false rfl ?_
  refine at_seq ?_
  refine at_seq ?_
  refine at_region ?_
  refine wl_read rfl rfl rfl ((yp_eql rfl rfl rfl).2 (by omega)) ?_
  refine wl_read rfl rfl rfl (yl_assign rfl rfl) ?_
  refine wl_nil ?_
  refine at_keep (Keep.cons 0 rfl (Keep.cons 1 rfl (Keep.cons 2 rfl (Keep.cons 5 rfl (Keep.cons 6 rfl (Keep.cons 7 rfl (Keep.cons 34 rfl (Keep.cons 35 rfl (Keep.cons 54 rfl Keep.nil))))))))) ?_
  refine at_false rfl ?_
  refine at_seq ?_
  refine at_region ?_
  refine wl_read rfl rfl rfl ((yp_eql rfl rfl rfl).2 (by omega)) ?_
  refine wl_read rfl rfl rfl (yl_assign rfl rfl) ?_
  refine wl_nil ?_
  refine at_keep (Keep.cons 0 rfl (Keep.cons 1 rfl (Keep.cons 2 rfl (Keep.cons 5 rfl (Keep.cons 6 rfl (Keep.cons 7 rfl (Keep.cons 34 rfl (Keep.cons 35 rfl (Keep.cons 54 rfl Keep.nil))))))))) ?_
  refine at_false rfl ?_
  refine at_region ?_
  refine wl_read rfl rfl rfl ((yp_eql rfl rfl rfl).2 (by omega)) ?_
  refine wl_read rfl rfl rfl (yl_assign rfl rfl) ?_
  refine wl_nil ?_
  refine at_keep (Keep.cons 0 rfl (Keep.cons 1 rfl (Keep.cons 2 rfl (Keep.cons 5 rfl (Keep.cons 6 rfl (Keep.cons 7 rfl (Keep.cons 34 rfl (Keep.cons 35 rfl (Keep.cons 54 rfl Keep.nil))))))))) ?_
  refine at_false rfl ?_
  refine at_seq ?_
  refine at_region ?_
  refine wl_read rfl rfl rfl ((yp_eql rfl rfl rfl).2 (by omega)) ?_
  refine wl_read rfl rfl rfl (yl_assign rfl rfl) ?_
  refine wl_nil ?_
  refine at_keep (Keep.cons 0 rfl (Keep.cons 1 rfl (Keep.cons 2 rfl (Keep.cons 5 rfl (Keep.cons 6 rfl (Keep.cons 7 rfl (Keep.cons 34 rfl (Keep.cons 35 rfl (Keep.cons 54 rfl (Keep.cons 77 rfl Keep.nil)))))))))) ?_
  refine at_false rfl ?_
  refine at_seq ?_
  refine at_region ?_
  refine wl_read rfl rfl rfl ((yp_eql rfl rfl rfl).1 (by omega)) ?_
  refine wl_read rfl rfl rfl (yl_assign rfl rfl) ?_
  refine wl_nil ?_
  refine at_keep (Keep.cons 0 rfl (Keep.cons 1 rfl (Keep.cons 2 rfl (Keep.cons 5 rfl (Keep.cons 6 rfl (Keep.cons 7 rfl (Keep.cons 34 rfl (Keep.cons 35 rfl (Keep.cons 54 rfl (Keep.cons 77 rfl (Keep.cons 99 rfl Keep.nil))))))))))) ?_
  refine at_true rfl ?_
  refine at_seq ?_
  refine at_region ?_
  refine wl_read rfl rfl rfl (yl_move rfl rfl) ?_
  refine wl_read rfl rfl rfl (yl_move rfl rfl) ?_
  refine wl_heap (fun _ hw => hw.front2) ?_
  refine wl_call rfl rfl rfl (en_call rfl rfl) (lose_out s.p s.k g _ _ _ hio) ?_
  rintro _ _ ⟨rfl, rfl⟩
  refine wl_read rfl rfl rfl (yl_move rfl rfl) ?_
  refine wl_read rfl rfl rfl (yl_move rfl rfl) ?_
  refine wl_heap (fun _ hw => hw.front1) ?_
  refine wl_call rfl rfl rfl (en_call rfl rfl) (rlose_out s.q s.k r _ _ _ (by rw [hlq]; exact hio)) ?_
  rintro _ _ ⟨rfl, rfl⟩
  refine wl_read rfl rfl rfl ((yp_eqb rfl rfl rfl Try.underlying4).1 rfl) ?_
  refine wl_read rfl rfl rfl (yl_assign rfl rfl) ?_
  refine wl_nil ?_
  refine at_keep (Keep.cons 0 rfl (Keep.cons 1 rfl (Keep.cons 2 rfl (Keep.cons 5 rfl (Keep.cons 6 rfl (Keep.cons 7 rfl (Keep.cons 34 rfl (Keep.cons 35 rfl (Keep.cons 54 rfl (Keep.cons 77 rfl (Keep.cons 99 rfl Keep.nil))))))))))) ?_
  refine at_retH (fun _ hw => hw.front3.front1.front2.drop3) Try.func18 (res1 rfl rfl) ?_
  exact ⟨rfl, s, hs.mono, fun _ h => h, rfl⟩
theorem step_repeatin (s : Sc) (n : Nat) (g r : Nat) (x : Raw) (b : World) (H : List Asr) (hs : SOk s n) (hn : n ≤ 100) (hR : Rd H x.A x.bs) (hi : I64 x.i) (hw : md x.what 8 = 6) (j : Nat) (hj : j < s.p.length) (hij : iv s x.i = (j : Int)) : Fn Try.prog 18 [.pointer (some ⟨g, 0, none⟩), .pointer (some ⟨r, 0, none⟩), .agg (Enc.cells x).toArray] b (Chn 58 g s.p s.k :: Chn 42 r s.q s.k :: Pool s.pl :: H) (fun v H' => v = .bool true ∧ ∃ s', SOk s' (n + 1) ∧ (∀ m, m ∈ s.pl → m ∈ s'.pl) ∧ H' = Chn 58 g s'.p s'.k :: Chn 42 r s'.q s'.k :: Pool s'.pl :: H) := by
  have hlen := hs.len
  have hlq := hs.lenq
  have hks := hs.ks
  have hkd := hs.kd
  have hkl := hs.kl
  have hkr := hs.kr
  have hm1 := md_bd x.i ((s.p.length : Int) + 2) (by omega)
  have hm1q := md_bd x.i ((s.q.length : Int) + 2) (by omega)
  have hm2 := md_bd (x.i.tdiv 100) 2 (by omega)
  have hq : -9223372036854775808 ≤ x.i.tdiv 100 ∧ x.i.tdiv 100 ≤ 9223372036854775807 := by
    obtain ⟨h1, h2⟩ := hi
    obtain ⟨h3, h4⟩ := tdiv_eq_if x.i 100 (by decide)
    rcases Int.le_total 0 x.i with h | h
    · have := h3 h; omega
    · have := h4 h; omega

  have hjq : j < s.q.length := by omega
  refine fn_of_at (by kernel_rfl) Try.func18 rfl Try.ntmps18 rfl rfl ?_
  refine at_seq ?_
  refine at_region ?_
  refine wl_eff rfl rfl rfl (ef_box rfl rfl rfl) ?_
  rintro _ _ ⟨g0, rfl, rfl⟩
  refine wl_read rfl rfl rfl (yl_assign rfl rfl) ?_
  refine wl_nil ?_
  refine at_keep (Keep.cons 0 rfl (Keep.cons 1 rfl (Keep.cons 2 rfl (Keep.cons 5 rfl (Keep.cons 6 rfl Keep.nil))))) ?_
  refine at_seq ?_
  refine at_heap (fun _ hw => hw.front2) ?_
  refine at_open (fun _ hw => Chn.opens hw) (fun x => ?_)
  obtain ⟨A9, c9⟩ := x
  refine at_draw0 (.fl 0 (.fl 1 (.fl 2 (.fl 3 (.fl 4 (.fl 5 (.fl 6 (.fl 7 (.fl 9 (.fl 10 (.fl 11 (.ef 8 (.ef 12 (.fl 13 (.fl 14 .nil))))))))))))))) (by kernel_rfl) (by kernel_rfl) ?_
  refine wt_read rfl rfl rfl rfl (yl_fieldB rfl rfl Try.underlying45 rfl (by kernel_rfl) rfl) ?_
  refine wt_read rfl rfl rfl rfl (yl_load rfl rfl Try.underlying3 rfl (CellAt.bk 2 rfl rfl)) ?_
  refine wt_read rfl rfl rfl rfl (yl_move rfl rfl) ?_
  refine wt_read rfl rfl rfl rfl (yl_nilCheck rfl rfl) ?_
  refine wt_read rfl rfl rfl rfl (yl_fieldB rfl rfl Try.underlying42 rfl (by kernel_rfl) rfl) ?_
  refine wt_read rfl rfl rfl rfl (yl_load rfl rfl Try.underlying40 rfl (CellAt.bk 0 rfl rfl)) ?_
  refine wt_read rfl rfl rfl rfl (yl_len rfl rfl Try.underlying40) ?_
  refine wt_read rfl rfl rfl rfl (yl_add rfl rfl rfl (w64 (by omega) (by omega))) ?_
  refine wt_read rfl rfl rfl rfl (yl_fieldB rfl rfl Try.underlying45 rfl (by kernel_rfl) rfl) ?_
  refine wt_read rfl rfl rfl rfl (yl_load rfl rfl Try.underlying3 rfl (CellAt.bk 2 rfl rfl)) ?_
  refine wt_read rfl rfl rfl rfl (yl_quo rfl rfl rfl (by decide) (w64 hq.1 hq.2)) ?_
  refine wt_call rfl rfl rfl rfl (en_call rfl rfl) (mod_fn _ _ _ _ (by omega) (by omega)) ?_
  rintro _ _ ⟨rfl, rfl⟩
  refine ⟨⟨[], rfl⟩, ?_⟩
  refine wt_call rfl rfl rfl rfl (en_call rfl rfl) (mod_fn _ _ _ _ (by decide) (by decide)) ?_
  rintro _ _ ⟨rfl, rfl⟩
  refine ⟨⟨[], rfl⟩, ?_⟩
  refine wt_read rfl rfl rfl rfl (yl_sub rfl rfl rfl (w64 (by omega) (by omega))) ?_
  refine wt_read rfl rfl rfl rfl (yl_assign rfl rfl) ?_
  refine wt_nil ?_
  refine at_keep (Keep.cons 0 rfl (Keep.cons 1 rfl (Keep.cons 2 rfl (Keep.cons 5 rfl (Keep.cons 6 rfl (Keep.cons 7 rfl Keep.nil)))))) ?_
  refine at_seq ?_
  refine at_seq ?_
  refine at_heap (fun _ hw => hw.front1.front1) ?_
  refine at_heap (fun _ hw => Chn.closes (ms := s.q) (k := s.k) hw) ?_
  rw [hlq]
  rw [show md x.i ((s.p.length : Int) + 2) - md (x.i.tdiv 100) 2 = iv s x.i from rfl]
  rw [hij]
  refine at_region ?_
  refine wl_read rfl rfl rfl (yl_fieldB rfl rfl Try.underlying45 rfl (by kernel_rfl) rfl) ?_
  refine wl_read rfl rfl rfl (yl_load rfl rfl Try.underlying3 rfl (CellAt.bk 1 rfl rfl)) ?_
  refine wl_call rfl rfl rfl (en_call rfl rfl) (mod_fn _ _ _ _ (by decide) (by decide)) ?_
  rintro _ _ ⟨rfl, rfl⟩
  refine wl_nil ?_
  refine at_keep (Keep.cons 0 rfl (Keep.cons 1 rfl (Keep.cons 2 rfl (Keep.cons 5 rfl (Keep.cons 6 rfl (Keep.cons 7 rfl (Keep.cons 34 rfl Keep.nil))))))) ?_
  refine at_block ?_
  refine at_seq ?_
  refine at_region ?_
  refine wl_read rfl rfl rfl ((yp_eql rfl rfl rfl).2 (by omega)) ?_
  refine wl_read rfl rfl rfl (yl_assign rfl rfl) ?_
  refine wl_nil ?_
  refine at_keep (Keep.cons 0 rfl (Keep.cons 1 rfl (Keep.cons 2 rfl (Keep.cons 5 rfl (Keep.cons 6 rfl (Keep.cons 7 rfl (Keep.cons 34 rfl (Keep.cons 35 rfl Keep.nil)))))))) ?_
  refine at_false rfl ?_
  refine at_seq ?_
  refine at_seq ?_
  refine at_region ?_
  refine wl_read rfl rfl rfl ((yp_eql rfl rfl rfl).2 (by omega)) ?_
  refine wl_read rfl rfl rfl (yl_assign rfl rfl) ?_
  refine wl_nil ?_
  refine at_keep (Keep.cons 0 rfl (Keep.cons 1 rfl (Keep.cons 2 rfl (Keep.cons 5 rfl (Keep.cons 6 rfl (Keep.cons 7 rfl (Keep.cons 34 rfl (Keep.cons 35 rfl (Keep.cons 54 rfl Keep.nil))))))))) ?_
  refine at_false rfl ?_
  refine at_seq ?_
  refine at_region ?_
  refine wl_read rfl rfl rfl ((yp_eql rfl rfl rfl).2 (by omega)) ?_
  refine wl_read rfl rfl rfl (yl_assign rfl rfl) ?_
  refine wl_nil ?_
  refine at_keep (Keep.cons 0 rfl (Keep.cons 1 rfl (Keep.cons 2 rfl (Keep.cons 5 rfl (Keep.cons 6 rfl (Keep.cons 7 rfl (Keep.cons 34 rfl (Keep.cons 35 rfl (Keep.cons 54 rfl Keep.nil))))))))) ?_
  refine at_false rfl ?_
  refine at_region ?_
  refine wl_read rfl rfl rfl ((yp_eql rfl rfl rfl).2 (by omega)) ?_
  refine wl_read rfl rfl rfl (yl_assign rfl rfl) ?_
  refine wl_nil ?_
  refine at_keep (Keep.cons 0 rfl (Keep.cons 1 rfl (Keep.cons 2 rfl (Keep.cons 5 rfl (Keep.cons 6 rfl (Keep.cons 7 rfl (Keep.cons 34 rfl (Keep.cons 35 rfl (Keep.cons 54 rfl Keep.nil))))))))) ?_
  refine at_false rfl ?_
  refine at_seq ?_
  refine at_region ?_
  refine wl_read rfl rfl rfl ((yp_eql rfl rfl rfl).2 (by omega)) ?_
  refine wl_read rfl rfl rfl (yl_assign rfl rfl) ?_
  refine wl_nil ?_
  refine at_keep (Keep.cons 0 rfl (Keep.cons 1 rfl (Keep.cons 2 rfl (Keep.cons 5 rfl (Keep.cons 6 rfl (Keep.cons 7 rfl (Keep.cons 34 rfl (Keep.cons 35 rfl (Keep.cons 54 rfl (Keep.cons 77 rfl Keep.nil)))))))))) ?_
  refine at_false rfl ?_
  refine at_seq ?_
  refine at_region ?_
  refine wl_read rfl rfl rfl ((yp_eql rfl rfl rfl).2 (by omega)) ?_
  refine wl_read rfl rfl rfl (yl_assign rfl rfl) ?_
  refine wl_nil ?_
  refine at_keep (Keep.cons 0 rfl (Keep.cons 1 rfl (Keep.cons 2 rfl (Keep.cons 5 rfl (Keep.cons 6 rfl (Keep.cons 7 rfl (Keep.cons 34 rfl (Keep.cons 35 rfl (Keep.cons 54 rfl (Keep.cons 77 rfl (Keep.cons 99 rfl Keep.nil))))))))))) ?_
  refine at_false rfl ?_
  refine at_seq ?_
  refine at_region ?_
  refine wl_read rfl rfl rfl ((yp_eql rfl rfl rfl).1 (by omega)) ?_
  refine wl_read rfl rfl rfl (yl_assign rfl rfl) ?_
  refine wl_nil ?_
  refine at_keep (Keep.cons 0 rfl (Keep.cons 1 rfl (Keep.cons 2 rfl (Keep.cons 5 rfl (Keep.cons 6 rfl (Keep.cons 7 rfl (Keep.cons 34 rfl (Keep.cons 35 rfl (Keep.cons 54 rfl (Keep.cons 77 rfl (Keep.cons 99 rfl (Keep.cons 108 rfl Keep.nil)))))))))))) ?_
  refine at_true rfl ?_
  refine at_seq ?_
  refine at_region ?_
  refine wl_read rfl rfl rfl (yl_move rfl rfl) ?_
  refine wl_read rfl rfl rfl (yl_move rfl rfl) ?_
  refine wl_heap (fun _ hw => hw.front2) ?_
  refine wl_call rfl rfl rfl (en_call rfl rfl) (repeat_fn s.p s.k g _ _ j (okP hs (by omega) 2 rfl) hj (by omega) (by omega)) ?_
  rintro _ _ ⟨A1, c1, rfl, rfl⟩
  refine wl_read rfl rfl rfl (yl_move rfl rfl) ?_
  refine wl_read rfl rfl rfl (yl_move rfl rfl) ?_
  refine wl_heap (fun _ hw => hw.front2) ?_
  refine wl_call rfl rfl rfl (en_call rfl rfl) (rrepeat_fn s.q s.k r _ _ j (okQ hs (by omega) 3 rfl) (by omega) (by omega) (by omega)) ?_
  rintro _ _ ⟨A2, c2, rfl, rfl⟩
  refine wl_read rfl rfl rfl ((yp_eql rfl rfl rfl).1 rfl) ?_
  refine wl_read rfl rfl rfl (yl_assign rfl rfl) ?_
  refine wl_nil ?_
  refine at_keep (Keep.cons 0 rfl (Keep.cons 1 rfl (Keep.cons 2 rfl (Keep.cons 5 rfl (Keep.cons 6 rfl (Keep.cons 7 rfl (Keep.cons 34 rfl (Keep.cons 35 rfl (Keep.cons 54 rfl (Keep.cons 77 rfl (Keep.cons 99 rfl (Keep.cons 108 rfl Keep.nil)))))))))))) ?_
  refine at_retH (fun _ hw => (hw.front1.front3.front2.front5.front4.drop5).poolIn.front1.poolIn.down2) Try.func18 (res1 rfl rfl) ?_
  have heq : ((at_ s.p j).cp A1 c1).abs = ((at_ s.q j).cp A2 c2).abs := by rw [Msg.abs_cp, Msg.abs_cp]; exact hs.at_ j hj
  exact ⟨rfl, ⟨s.p ++ [((at_ s.p j).cp A1 c1)], s.q ++ [((at_ s.q j).cp A2 c2)], { s.k with rep := s.k.rep + 1 }, Msg.mem ((at_ s.q j).cp A2 c2) :: Msg.mem ((at_ s.p j).cp A1 c1) :: s.pl⟩, hs.add ((at_ s.p j).cp A1 c1) ((at_ s.q j).cp A2 c2) heq (hs.szp (at_ s.p j) (at_in hj)) _ (.inr rfl), fun _ h => List.mem_cons_of_mem _ (List.mem_cons_of_mem _ h), rfl⟩
theorem step_repeatout (s : Sc) (n : Nat) (g r : Nat) (x : Raw) (b : World) (H : List Asr) (hs : SOk s n) (hn : n ≤ 100) (hR : Rd H x.A x.bs) (hi : I64 x.i) (hw : md x.what 8 = 6) (hio : ¬ (0 ≤ iv s x.i ∧ iv s x.i < (s.p.length : Int))) : Fn Try.prog 18 [.pointer (some ⟨g, 0, none⟩), .pointer (some ⟨r, 0, none⟩), .agg (Enc.cells x).toArray] b (Chn 58 g s.p s.k :: Chn 42 r s.q s.k :: Pool s.pl :: H) (fun v H' => v = .bool true ∧ ∃ s', SOk s' (n + 1) ∧ (∀ m, m ∈ s.pl → m ∈ s'.pl) ∧ H' = Chn 58 g s'.p s'.k :: Chn 42 r s'.q s'.k :: Pool s'.pl :: H) := by
  have hlen := hs.len
  have hlq := hs.lenq
  have hks := hs.ks
  have hkd := hs.kd
  have hkl := hs.kl
  have hkr := hs.kr
  have hm1 := md_bd x.i ((s.p.length : Int) + 2) (by omega)
  have hm1q := md_bd x.i ((s.q.length : Int) + 2) (by omega)
  have hm2 := md_bd (x.i.tdiv 100) 2 (by omega)
  have hq : -9223372036854775808 ≤ x.i.tdiv 100 ∧ x.i.tdiv 100 ≤ 9223372036854775807 := by
    obtain ⟨h1, h2⟩ := hi
    obtain ⟨h3, h4⟩ := tdiv_eq_if x.i 100 (by decide)
    rcases Int.le_total 0 x.i with h | h
    · have := h3 h; omega
    · have := h4 h; omega

  refine fn_of_at (by kernel_rfl) Try.func18 rfl Try.ntmps18 rfl rfl ?_
  refine at_seq ?_
  refine at_region ?_
  refine wl_eff rfl rfl rfl (ef_box rfl rfl rfl) ?_
  rintro _ _ ⟨g0, rfl, rfl⟩
  refine wl_read rfl rfl rfl (yl_assign rfl rfl) ?_
  refine wl_nil ?_
  refine at_keep (Keep.cons 0 rfl (Keep.cons 1 rfl (Keep.cons 2 rfl (Keep.cons 5 rfl (Keep.cons 6 rfl Keep.nil))))) ?_
  refine at_seq ?_
  refine at_heap (fun _ hw => hw.front2) ?_
  refine at_open (fun _ hw => Chn.opens hw) (fun x => ?_)
  obtain ⟨A9, c9⟩ := x
  refine at_draw0 (.fl 0 (.fl 1 (.fl 2 (.fl 3 (.fl 4 (.fl 5 (.fl 6 (.fl 7 (.fl 9 (.fl 10 (.fl 11 (.ef 8 (.ef 12 (.fl 13 (.fl 14 .nil))))))))))))))) (by kernel_rfl) (by kernel_rfl) ?_
  refine wt_read rfl rfl rfl rfl (yl_fieldB rfl rfl Try.underlying45 rfl (by kernel_rfl) rfl) ?_
  refine wt_read rfl rfl rfl rfl (yl_load rfl rfl Try.underlying3 rfl (CellAt.bk 2 rfl rfl)) ?_
  refine wt_read rfl rfl rfl rfl (yl_move rfl rfl) ?_
  refine wt_read rfl rfl rfl rfl (yl_nilCheck rfl rfl) ?_
  refine wt_read rfl rfl rfl rfl (yl_fieldB rfl rfl Try.underlying42 rfl (by kernel_rfl) rfl) ?_
  refine wt_read rfl rfl rfl rfl (yl_load rfl rfl Try.underlying40 rfl (CellAt.bk 0 rfl rfl)) ?_
  refine wt_read rfl rfl rfl rfl (yl_len rfl rfl Try.underlying40) ?_
  refine wt_read rfl rfl rfl rfl (yl_add rfl rfl rfl (w64 (by omega) (by omega))) ?_
  refine wt_read rfl rfl rfl rfl (yl_fieldB rfl rfl Try.underlying45 rfl (by kernel_rfl) rfl) ?_
  refine wt_read rfl rfl rfl rfl (yl_load rfl rfl Try.underlying3 rfl (CellAt.bk 2 rfl rfl)) ?_
  refine wt_read rfl rfl rfl rfl (yl_quo rfl rfl rfl (by decide) (w64 hq.1 hq.2)) ?_
  refine wt_call rfl rfl rfl rfl (en_call rfl rfl) (mod_fn _ _ _ _ (by omega) (by omega)) ?_
  rintro _ _ ⟨rfl, rfl⟩
  refine ⟨⟨[], rfl⟩, ?_⟩
  refine wt_call rfl rfl rfl rfl (en_call rfl rfl) (mod_fn _ _ _ _ (by decide) (by decide)) ?_
  rintro _ _ ⟨rfl, rfl⟩
  refine ⟨⟨[], rfl⟩, ?_⟩
  refine wt_read rfl rfl rfl rfl (yl_sub rfl rfl rfl (w64 (by omega) (by omega))) ?_
  refine wt_read rfl rfl rfl rfl (yl_assign rfl rfl) ?_
  refine wt_nil ?_
  refine at_keep (Keep.cons 0 rfl (Keep.cons 1 rfl (Keep.cons 2 rfl (Keep.cons 5 rfl (Keep.cons 6 rfl (Keep.cons 7 rfl Keep.nil)))))) ?_
  refine at_seq ?_
  refine at_seq ?_
  refine at_heap (fun _ hw => hw.front1.front1) ?_
  refine at_heap (fun _ hw => Chn.closes (ms := s.q) (k := s.k) hw) ?_
  rw [hlq]
  rw [show md x.i ((s.p.length : Int) + 2) - md (x.i.tdiv 100) 2 = iv s x.i from rfl]
  refine at_region ?_
  refine wl_read rfl rfl rfl (yl_fieldB rfl rfl Try.underlying45 rfl (by kernel_rfl) rfl) ?_
  refine wl_read rfl rfl rfl (yl_load rfl rfl Try.underlying3 rfl (CellAt.bk 1 rfl rfl)) ?_
  refine wl_call rfl rfl rfl (en_call rfl rfl) (mod_fn _ _ _ _ (by decide) (by decide)) ?_
  rintro _ _ ⟨rfl, rfl⟩
  refine wl_nil ?_
  refine at_keep (Keep.cons 0 rfl (Keep.cons 1 rfl (Keep.cons 2 rfl (Keep.cons 5 rfl (Keep.cons 6 rfl (Keep.cons 7 rfl (Keep.cons 34 rfl Keep.nil))))))) ?_
  refine at_block ?_
  refine at_seq ?_
  refine at_region ?_
  refine wl_read rfl rfl rfl ((yp_eql rfl rfl rfl).2 (by omega)) ?_
  refine wl_read rfl rfl rfl (yl_assign rfl rfl) ?_
  refine wl_nil ?_
  refine at_keep (Keep.cons 0 rfl (Keep.cons 1 rfl (Keep.cons 2 rfl (Keep.cons 5 rfl (Keep.cons 6 rfl (Keep.cons 7 rfl (Keep.cons 34 rfl (Keep.cons 35 rfl Keep.nil)))))))) ?_
  refine at_false rfl ?_
  refine at_seq ?_
  refine at_seq ?_
  refine at_region ?_
  refine wl_read rfl rfl rfl ((yp_eql rfl rfl rfl).2 (by omega)) ?_
  refine wl_read rfl rfl rfl (yl_assign rfl rfl) ?_
  refine wl_nil ?_
  refine at_keep (Keep.cons 0 rfl (Keep.cons 1 rfl (Keep.cons 2 rfl (Keep.cons 5 rfl (Keep.cons 6 rfl (Keep.cons 7 rfl (Keep.cons 34 rfl (Keep.cons 35 rfl (Keep.cons 54 rfl Keep.nil))))))))) ?_
  refine at_false rfl ?_
  refine at_seq ?_
  refine at_region ?_
  refine wl_read rfl rfl rfl ((yp_eql rfl rfl rfl).2 (by omega)) ?_
  refine wl_read rfl rfl rfl (yl_assign rfl rfl) ?_
  refine wl_nil ?_
  refine at_keep (Keep.cons 0 rfl (Keep.cons 1 rfl (Keep.cons 2 rfl (Keep.cons 5 rfl (Keep.cons 6 rfl (Keep.cons 7 rfl (Keep.cons 34 rfl (Keep.cons 35 rfl (Keep.cons 54 rfl Keep.nil))))))))) ?_
  refine at_false rfl ?_
  refine at_region ?_
  refine wl_read rfl rfl rfl ((yp_eql rfl rfl rfl).2 (by omega)) ?_
  refine wl_read rfl rfl rfl (yl_assign rfl rfl) ?_
  refine wl_nil ?_
  refine at_keep (Keep.cons 0 rfl (Keep.cons 1 rfl (Keep.cons 2 rfl (Keep.cons 5 rfl (Keep.cons 6 rfl (Keep.cons 7 rfl (Keep.cons 34 rfl (Keep.cons 35 rfl (Keep.cons 54 rfl Keep.nil))))))))) ?_
  refine at_false rfl ?_
  refine at_seq ?_
  refine at_region ?_
  refine wl_read rfl rfl rfl ((yp_eql rfl rfl rfl).2 (by omega)) ?_
  refine wl_read rfl rfl rfl (yl_assign rfl rfl) ?_
  refine wl_nil ?_
  refine at_keep (Keep.cons 0 rfl (Keep.cons 1 rfl (Keep.cons 2 rfl (Keep.cons 5 rfl (Keep.cons 6 rfl (Keep.cons 7 rfl (Keep.cons 34 rfl (Keep.cons 35 rfl (Keep.cons 54 rfl (Keep.cons 77 rfl Keep.nil)))))))))) ?_
  refine at_false rfl ?_
  refine at_seq ?_
  refine at_region ?_
  refine wl_read rfl rfl rfl ((yp_eql rfl rfl rfl).2 (by omega)) ?_
  refine wl_read rfl rfl rfl (yl_assign rfl rfl) ?_
  refine wl_nil ?_
  refine at_keep (Keep.cons 0 rfl (Keep.cons 1 rfl (Keep.cons 2 rfl (Keep.cons 5 rfl (Keep.cons 6 rfl (Keep.cons 7 rfl (Keep.cons 34 rfl (Keep.cons 35 rfl (Keep.cons 54 rfl (Keep.cons 77 rfl (Keep.cons 99 rfl Keep.nil))))))))))) ?_
  refine at_false rfl ?_
  refine at_seq ?_
  refine at_region ?_
  refine wl_read rfl rfl rfl ((yp_eql rfl rfl rfl).1 (by omega)) ?_
  refine wl_read rfl rfl rfl (yl_assign rfl rfl) ?_
  refine wl_nil ?_
  refine at_keep (Keep.cons 0 rfl (Keep.cons 1 rfl (Keep.cons 2 rfl (Keep.cons 5 rfl (Keep.cons 6 rfl (Keep.cons 7 rfl (Keep.cons 34 rfl (Keep.cons 35 rfl (Keep.cons 54 rfl (Keep.cons 77 rfl (Keep.cons 99 rfl (Keep.cons 108 rfl Keep.nil)))))))))))) ?_
  refine at_true rfl ?_
  refine at_seq ?_
  refine at_region ?_
  refine wl_read rfl rfl rfl (yl_move rfl rfl) ?_
  refine wl_read rfl rfl rfl (yl_move rfl rfl) ?_
  refine wl_heap (fun _ hw => hw.front2) ?_
  refine wl_call rfl rfl rfl (en_call rfl rfl) (repeat_out s.p s.k g _ _ _ hio) ?_
  rintro _ _ ⟨rfl, rfl⟩
  refine wl_read rfl rfl rfl (yl_move rfl rfl) ?_
  refine wl_read rfl rfl rfl (yl_move rfl rfl) ?_
  refine wl_heap (fun _ hw => hw.front1) ?_
  refine wl_call rfl rfl rfl (en_call rfl rfl) (rrepeat_out s.q s.k r _ _ _ (by rw [hlq]; exact hio)) ?_
  rintro _ _ ⟨rfl, rfl⟩
  refine wl_read rfl rfl rfl ((yp_eql rfl rfl rfl).1 rfl) ?_
  refine wl_read rfl rfl rfl (yl_assign rfl rfl) ?_
  refine wl_nil ?_
  refine at_keep (Keep.cons 0 rfl (Keep.cons 1 rfl (Keep.cons 2 rfl (Keep.cons 5 rfl (Keep.cons 6 rfl (Keep.cons 7 rfl (Keep.cons 34 rfl (Keep.cons 35 rfl (Keep.cons 54 rfl (Keep.cons 77 rfl (Keep.cons 99 rfl (Keep.cons 108 rfl Keep.nil)))))))))))) ?_
  refine at_retH (fun _ hw => hw.front3.front1.front2.drop3) Try.func18 (res1 rfl rfl) ?_
  exact ⟨rfl, s, hs.mono, fun _ h => h, rfl⟩
theorem step_fn (s : Sc) (n : Nat) (g r : Nat) (x : Raw) (b : World) (H : List Asr) (hs : SOk s n) (hn : n ≤ 100) (hR : Rd H x.A x.bs) (hi : I64 x.i) : Fn Try.prog 18 [.pointer (some ⟨g, 0, none⟩), .pointer (some ⟨r, 0, none⟩), .agg (Enc.cells x).toArray] b (Chn 58 g s.p s.k :: Chn 42 r s.q s.k :: Pool s.pl :: H) (fun v H' => v = .bool true ∧ ∃ s', SOk s' (n + 1) ∧ (∀ m, m ∈ s.pl → m ∈ s'.pl) ∧ H' = Chn 58 g s'.p s'.k :: Chn 42 r s'.q s'.k :: Pool s'.pl :: H) := by
  have hw := md_bd x.what 8 (by decide)
  have hc : md x.what 8 = 0 ∨ md x.what 8 = 1 ∨ md x.what 8 = 2 ∨ md x.what 8 = 3 ∨ md x.what 8 = 4 ∨ md x.what 8 = 5 ∨ md x.what 8 = 6 ∨ md x.what 8 = 7 := by omega
  have hin : (∃ j : Nat, j < s.p.length ∧ iv s x.i = (j : Int)) ∨ ¬ (0 ≤ iv s x.i ∧ iv s x.i < (s.p.length : Int)) := by
    rcases Classical.em (0 ≤ iv s x.i ∧ iv s x.i < (s.p.length : Int)) with h | h
    · exact .inl ⟨(iv s x.i).toNat, by omega, by omega⟩
    · exact .inr h
  have hA : okS x.from_ x.to_ x.bs ∨ ¬ okS x.from_ x.to_ x.bs := Classical.em _
  have hB : okS (md x.from_ 6) (md x.to_ 6) x.bs ∨ ¬ okS (md x.from_ 6) (md x.to_ 6) x.bs := Classical.em _
  rcases hc with h | h | h | h | h | h | h | h
  · rcases hA with hA | hA
    · exact step_send0ok s n g r x b H hs hn hR hi h hA
    · exact step_send0bad s n g r x b H hs hn hR hi h hA
  · rcases hB with hB | hB
    · exact step_send1ok s n g r x b H hs hn hR hi h hB
    · exact step_send1bad s n g r x b H hs hn hR hi h hB
  · rcases hB with hB | hB
    · exact step_send2ok s n g r x b H hs hn hR hi h hB
    · exact step_send2bad s n g r x b H hs hn hR hi h hB
  · rcases hB with hB | hB
    · exact step_send3ok s n g r x b H hs hn hR hi h hB
    · exact step_send3bad s n g r x b H hs hn hR hi h hB
  · rcases hin with ⟨j, hj, hij⟩ | hio
    · exact step_deliverin s n g r x b H hs hn hR hi h j hj hij
    · exact step_deliverout s n g r x b H hs hn hR hi h hio
  · rcases hin with ⟨j, hj, hij⟩ | hio
    · exact step_losein s n g r x b H hs hn hR hi h j hj hij
    · exact step_loseout s n g r x b H hs hn hR hi h hio
  · rcases hin with ⟨j, hj, hij⟩ | hio
    · exact step_repeatin s n g r x b H hs hn hR hi h j hj hij
    · exact step_repeatout s n g r x b H hs hn hR hi h hio
  · rcases hin with ⟨j, hj, hij⟩ | hio
    · exact step_atin s n g r x b H hs hn hR hi h j hj hij
    · exact step_atout s n g r x b H hs hn hR hi h hio
end Go.Proofs.Ytcpcgllkdpfacaa

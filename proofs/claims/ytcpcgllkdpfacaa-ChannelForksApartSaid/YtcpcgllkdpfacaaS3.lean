/- Walk of the law on copies. -/
import Derived.Test.YtcpcgllkdpfacaaS
namespace Go.Proofs.Ytcpcgllkdpfacaa
open Go

theorem SOk.pool {s : Sc} {n : Nat} (h : SOk s n) {pl' : List (Mem UInt8)} (hsub : ∀ m, m ∈ s.pl → m ∈ pl') : SOk ⟨s.p, s.q, s.k, pl'⟩ n :=
  ⟨h.same, fun m hm => hsub _ (h.inp m hm), fun m hm => hsub _ (h.inq m hm), h.szp, h.szq, h.len, h.ks, h.kd, h.kl, h.kr, h.cons⟩
theorem SOk.fork {s : Sc} {n : Nat} (h : SOk s n) {qs : List Msg} {pl' : List (Mem UInt8)} (h1 : qs.map Msg.abs = s.q.map Msg.abs) (h2 : ∀ m, m ∈ qs → m.mem ∈ pl') (h3 : ∀ m, m ∈ qs → m.bs.length ≤ 1000) (hsub : ∀ m, m ∈ s.pl → m ∈ pl') : SOk ⟨s.p, qs, s.k, pl'⟩ n :=
  ⟨h.same.trans h1.symm, fun m hm => hsub _ (h.inp m hm), h2, h.szp, h3, h.len, h.ks, h.kd, h.kl, h.kr, h.cons⟩

theorem law9 (l l2 : List Raw) (A A9 : Option Addr) (c c9 : Nat) (b : World) (H : List Asr) (hR : Rd H A l) (hE : ∀ m, m ∈ l → Rd H m.A m.bs) (hI : ∀ m, m ∈ l → I64 m.i) (hR2 : Rd H A9 l2) (hE2 : ∀ m, m ∈ l2 → Rd H m.A m.bs) (hI2 : ∀ m, m ∈ l2 → I64 m.i) : Fn Try.prog 9 [.slice A l.length c, .slice A9 l2.length c9] b H (fun v H' => v = .bool true ∧ H = H') := by
  have o1 : okS 0 1 [1, 2, 3] := by decide
  refine fn_of_at (by kernel_rfl) Try.func9 rfl Try.ntmps9 rfl rfl ?_
  refine at_seq ?_
  refine at_region ?_
  refine wl_read rfl rfl rfl (yl_assign rfl rfl) ?_
  refine wl_nil ?_
  refine at_keep (Keep.cons 0 rfl (Keep.cons 1 rfl (Keep.cons 4 rfl Keep.nil))) ?_
  refine at_seq ?_
  refine at_region ?_
  refine wl_call rfl rfl rfl (en_call rfl rfl) (new_fn _ _) ?_
  rintro _ _ ⟨g, rfl, rfl⟩
  refine wl_read rfl rfl rfl (yl_build (cs := [.slice none 0 0, .int .i64 0, .int .i64 0, .int .i64 0, .int .i64 0]) rfl rfl (fun _ => by kernel_rfl)) ?_
  refine wl_eff rfl rfl rfl (ef_box rfl rfl rfl) ?_
  rintro _ _ ⟨r, rfl, rfl⟩
  refine wl_read rfl rfl rfl (yl_assign rfl rfl) ?_
  refine wl_read rfl rfl rfl (yl_assign rfl rfl) ?_
  refine wl_nil ?_
  refine at_keep (Keep.cons 0 rfl (Keep.cons 1 rfl (Keep.cons 4 rfl (Keep.cons 5 rfl (Keep.cons 6 rfl Keep.nil))))) ?_
  refine at_seq ?_
  refine at_seq ?_
  refine at_heap (fun _ hw => hw.scene) ?_
  refine at_region ?_
  refine wl_read rfl rfl rfl (yl_assign rfl rfl) ?_
  refine wl_nil ?_
  refine at_keep (Keep.cons 0 rfl (Keep.cons 1 rfl (Keep.cons 4 rfl (Keep.cons 5 rfl (Keep.cons 6 rfl (Keep.cons 7 rfl Keep.nil)))))) ?_
  refine at_block ?_
  refine at_keep (L' := (fun (j : Nat) (s : Sc) => [(0, .slice A l.length c), (1, .slice A9 l2.length c9), (5, .pointer (some ⟨g, 0, none⟩)), (6, .pointer (some ⟨r, 0, none⟩)), (7, .int .i64 (j : Int))]) 0 s0) (Keep.consEq 0 rfl rfl (Keep.consEq 1 rfl rfl (Keep.consEq 5 rfl rfl (Keep.consEq 6 rfl rfl (Keep.consEq 7 rfl rfl Keep.nil))))) ?_
  refine at_loop2 (fun (j : Nat) (s : Sc) => j ≤ 20 ∧ SOk s j) (fun (j : Nat) (s : Sc) => [(0, .slice A l.length c), (1, .slice A9 l2.length c9), (5, .pointer (some ⟨g, 0, none⟩)), (6, .pointer (some ⟨r, 0, none⟩)), (7, .int .i64 (j : Int))]) (fun (j : Nat) (s : Sc) => Chn 58 g s.p s.k :: Chn 42 r s.q s.k :: Pool s.pl :: H) (fun (j : Nat) (s : Sc) => l.length - j) 0 s0 ⟨by omega, s0_ok⟩ ?_
  intro j s hI0 ih
  obtain ⟨hI1, hs⟩ := hI0
  refine at_seq ?_
  refine at_seq ?_
  refine at_region ?_
  refine wl_read rfl rfl rfl (yl_move rfl rfl) ?_
  refine wl_read rfl rfl rfl (yl_move rfl rfl) ?_
  refine wl_read rfl rfl rfl (yl_len rfl rfl Try.underlying38) ?_
  refine wl_split rfl rfl rfl (yp_lss rfl rfl rfl) ?_ ?_
  · intro h3_3
    refine wl_read rfl rfl rfl (yl_move rfl rfl) ?_
    refine wl_read rfl rfl rfl (yl_move rfl rfl) ?_
    refine wl_split rfl rfl rfl (yp_lss rfl rfl rfl) ?_ ?_
    · intro h3_6
      refine wl_read rfl rfl rfl (yl_pickT rfl rfl rfl) ?_
      refine wl_nil ?_
      refine at_keep (Keep.cons 0 rfl (Keep.cons 1 rfl (Keep.cons 5 rfl (Keep.cons 6 rfl (Keep.cons 7 rfl (Keep.cons 24 rfl Keep.nil)))))) ?_
      refine at_true rfl ?_
      refine at_skip ?_
      refine at_seq ?_
      refine at_block ?_
      refine at_seq ?_
      have hj1 : j < l.length := by omega
      refine at_region ?_
      refine wl_read rfl rfl rfl (yl_move rfl rfl) ?_
      refine wl_read rfl rfl rfl (yl_move rfl rfl) ?_
      refine wl_read rfl rfl rfl (yl_move rfl rfl) ?_
      refine wl_read rfl rfl rfl (yl_move rfl rfl) ?_
      refine wl_read rfl rfl rfl (yl_index rfl rfl rfl (((hR.cons _).cons _).cons _) (at_some hj1) rfl rfl Try.underlying38 (by kernel_rfl) rfl) ?_
      refine wl_read rfl rfl rfl (yl_loadRow rfl rfl (((hR.cons _).cons _).cons _) (at_some hj1) Try.underlying45 rfl (by kernel_rfl) rfl) ?_
      refine wl_call rfl rfl rfl (en_call rfl rfl) (step_fn s j g r (at_ l j) _ _ hs (by omega) (hE _ (at_in hj1)) (hI _ (at_in hj1))) ?_
      rintro _ _ ⟨rfl, s', hs', hsub, rfl⟩
      refine wl_read rfl rfl rfl (yl_notT rfl rfl) ?_
      refine wl_nil ?_
      refine at_keep (Keep.cons 0 rfl (Keep.cons 1 rfl (Keep.cons 5 rfl (Keep.cons 6 rfl (Keep.cons 7 rfl (Keep.cons 24 rfl (Keep.cons 34 rfl Keep.nil))))))) ?_
      refine at_false rfl ?_
      refine at_skip ?_
      refine at_inBlock ?_
      refine at_region ?_
      refine wl_read rfl rfl rfl (yl_move rfl rfl) ?_
      refine wl_read rfl rfl rfl (yl_add rfl rfl rfl (w64 (by omega) (by omega))) ?_
      refine wl_read rfl rfl rfl (yl_assign rfl rfl) ?_
      refine wl_nil ?_
      refine at_keep (Keep.cons 0 rfl (Keep.cons 1 rfl (Keep.cons 5 rfl (Keep.cons 6 rfl (Keep.cons 7 rfl (Keep.cons 24 rfl (Keep.cons 34 rfl Keep.nil))))))) ?_
      exact at_keep (L' := (fun (j : Nat) (s : Sc) => [(0, .slice A l.length c), (1, .slice A9 l2.length c9), (5, .pointer (some ⟨g, 0, none⟩)), (6, .pointer (some ⟨r, 0, none⟩)), (7, .int .i64 (j : Int))]) (j + 1) s') (Keep.consEq 0 rfl rfl (Keep.consEq 1 rfl rfl (Keep.consEq 5 rfl rfl (Keep.consEq 6 rfl rfl (Keep.consEq 7 rfl rfl Keep.nil))))) (ih (j + 1) s' ⟨by omega, hs'⟩ (by omega))
    · intro h3_6
      refine wl_read rfl rfl rfl (yl_pickT rfl rfl rfl) ?_
      refine wl_nil ?_
      refine at_keep (Keep.cons 0 rfl (Keep.cons 1 rfl (Keep.cons 5 rfl (Keep.cons 6 rfl (Keep.cons 7 rfl (Keep.cons 24 rfl Keep.nil)))))) ?_
      refine at_false rfl ?_
      refine at_exit rfl ?_
      refine at_seq ?_
      have hlen := hs.len
      have hks := hs.ks
      have hlq := hs.lenq
      refine at_region ?_
      refine wl_read rfl rfl rfl (yl_move rfl rfl) ?_
      refine wl_call rfl rfl rfl (en_call rfl rfl) (fork_fn s.p s.k g _ _ (by omega)) ?_
      rintro _ _ ⟨g2, rfl, rfl⟩
      refine wl_read rfl rfl rfl (yl_assign rfl rfl) ?_
      refine wl_nil ?_
      refine at_keep (Keep.cons 0 rfl (Keep.cons 1 rfl (Keep.cons 5 rfl (Keep.cons 6 rfl (Keep.cons 7 rfl (Keep.cons 8 rfl (Keep.cons 24 rfl Keep.nil))))))) ?_
      refine at_seq ?_
      refine at_seq ?_
      refine at_region ?_
      refine wl_read rfl rfl rfl (yl_move rfl rfl) ?_
      refine wl_read rfl rfl rfl (yl_eqPtr rfl rfl rfl (by kernel_rfl) rfl) ?_
      refine wl_read rfl rfl rfl (yl_move rfl rfl) ?_
      refine wl_call rfl rfl rfl (en_call rfl rfl) (awake_fn _ _) ?_
      rintro _ _ ⟨rfl, rfl⟩
      refine wl_read rfl rfl rfl (yl_notT rfl rfl) ?_
      refine wl_read rfl rfl rfl (yl_pickF rfl rfl rfl) ?_
      refine wl_nil ?_
      refine at_keep (Keep.cons 0 rfl (Keep.cons 1 rfl (Keep.cons 5 rfl (Keep.cons 6 rfl (Keep.cons 7 rfl (Keep.cons 8 rfl (Keep.cons 24 rfl (Keep.cons 42 rfl Keep.nil)))))))) ?_
      refine at_false rfl ?_
      refine at_skip ?_
      refine at_seq ?_
      refine at_heap (fun _ hw => hw.front3.front3) ?_
      refine at_region ?_
      refine wl_read rfl rfl rfl (yl_move rfl rfl) ?_
      refine wl_call rfl rfl rfl (en_call rfl rfl) (rfork_fn s.q s.k s.pl r _ _ (by omega) hs.inq hs.szq) ?_
      rintro _ _ ⟨r2, qs, pl2, rfl, hq1, hq2, hq3, hq4, rfl⟩
      refine wl_read rfl rfl rfl (yl_assign rfl rfl) ?_
      refine wl_nil ?_
      refine at_keep (Keep.cons 0 rfl (Keep.cons 1 rfl (Keep.cons 5 rfl (Keep.cons 6 rfl (Keep.cons 7 rfl (Keep.cons 8 rfl (Keep.cons 9 rfl (Keep.cons 24 rfl (Keep.cons 42 rfl Keep.nil))))))))) ?_
      refine at_seq ?_
      refine at_seq ?_
      refine at_heap (fun _ hw => hw.front1.front4.front3.front3.front4) ?_
      have hs2 : SOk ⟨s.p, qs, s.k, pl2⟩ 20 := (hs.fork hq1 hq2 hq3 hq4).to (by omega)
      refine at_region ?_
      refine wl_read rfl rfl rfl (yl_assign rfl rfl) ?_
      refine wl_nil ?_
      refine at_keep (Keep.cons 0 rfl (Keep.cons 1 rfl (Keep.cons 5 rfl (Keep.cons 6 rfl (Keep.cons 7 rfl (Keep.cons 8 rfl (Keep.cons 9 rfl (Keep.cons 10 rfl (Keep.cons 24 rfl (Keep.cons 42 rfl Keep.nil)))))))))) ?_
      refine at_block ?_
      refine at_keep (L' := (fun (i : Nat) (t : Sc) => [(1, .slice A9 l2.length c9), (5, .pointer (some ⟨g, 0, none⟩)), (6, .pointer (some ⟨r, 0, none⟩)), (8, .pointer (some ⟨g2, 0, none⟩)), (9, .pointer (some ⟨r2, 0, none⟩)), (10, .int .i64 (i : Int))]) 0 ⟨s.p, qs, s.k, pl2⟩) (Keep.consEq 1 rfl rfl (Keep.consEq 5 rfl rfl (Keep.consEq 6 rfl rfl (Keep.consEq 8 rfl rfl (Keep.consEq 9 rfl rfl (Keep.consEq 10 rfl rfl Keep.nil)))))) ?_
      refine at_loop2 (fun (i : Nat) (t : Sc) => i ≤ 20 ∧ SOk t (20 + i) ∧ ∀ m, m ∈ pl2 → m ∈ t.pl) (fun (i : Nat) (t : Sc) => [(1, .slice A9 l2.length c9), (5, .pointer (some ⟨g, 0, none⟩)), (6, .pointer (some ⟨r, 0, none⟩)), (8, .pointer (some ⟨g2, 0, none⟩)), (9, .pointer (some ⟨r2, 0, none⟩)), (10, .int .i64 (i : Int))]) (fun (i : Nat) (t : Sc) => Chn 58 g2 t.p t.k :: Chn 42 r2 t.q t.k :: Pool t.pl :: Chn 58 g s.p s.k :: Chn 42 r s.q s.k :: H) (fun (i : Nat) (t : Sc) => l2.length - i) 0 ⟨s.p, qs, s.k, pl2⟩ ⟨by omega, hs2, fun _ h => h⟩ ?_
      intro i t hI0 ih
      obtain ⟨hJ1, ht, hJ3⟩ := hI0
      refine at_seq ?_
      refine at_seq ?_
      refine at_region ?_
      refine wl_read rfl rfl rfl (yl_move rfl rfl) ?_
      refine wl_read rfl rfl rfl (yl_move rfl rfl) ?_
      refine wl_read rfl rfl rfl (yl_len rfl rfl Try.underlying38) ?_
      refine wl_split rfl rfl rfl (yp_lss rfl rfl rfl) ?_ ?_
      · intro h12_3
        refine wl_read rfl rfl rfl (yl_move rfl rfl) ?_
        refine wl_read rfl rfl rfl (yl_move rfl rfl) ?_
        refine wl_split rfl rfl rfl (yp_lss rfl rfl rfl) ?_ ?_
        · intro h12_6
          refine wl_read rfl rfl rfl (yl_pickT rfl rfl rfl) ?_
          refine wl_nil ?_
          refine at_keep (Keep.cons 1 rfl (Keep.cons 5 rfl (Keep.cons 6 rfl (Keep.cons 8 rfl (Keep.cons 9 rfl (Keep.cons 10 rfl (Keep.cons 52 rfl Keep.nil))))))) ?_
          refine at_true rfl ?_
          refine at_skip ?_
          refine at_seq ?_
          refine at_block ?_
          refine at_seq ?_
          have hj2 : i < l2.length := by omega
          refine at_region ?_
          refine wl_read rfl rfl rfl (yl_move rfl rfl) ?_
          refine wl_read rfl rfl rfl (yl_move rfl rfl) ?_
          refine wl_read rfl rfl rfl (yl_move rfl rfl) ?_
          refine wl_read rfl rfl rfl (yl_move rfl rfl) ?_
          refine wl_read rfl rfl rfl (yl_index rfl rfl rfl (((((hR2.cons _).cons _).cons _).cons _).cons _) (at_some hj2) rfl rfl Try.underlying38 (by kernel_rfl) rfl) ?_
          refine wl_read rfl rfl rfl (yl_loadRow rfl rfl (((((hR2.cons _).cons _).cons _).cons _).cons _) (at_some hj2) Try.underlying45 rfl (by kernel_rfl) rfl) ?_
          refine wl_call rfl rfl rfl (en_call rfl rfl) (step_fn t (20 + i) g2 r2 (at_ l2 i) _ _ ht (by omega) (((hE2 _ (at_in hj2)).cons _).cons _) (hI2 _ (at_in hj2))) ?_
          rintro _ _ ⟨rfl, t', ht', htsub, rfl⟩
          refine wl_read rfl rfl rfl (yl_notT rfl rfl) ?_
          refine wl_nil ?_
          refine at_keep (Keep.cons 1 rfl (Keep.cons 5 rfl (Keep.cons 6 rfl (Keep.cons 8 rfl (Keep.cons 9 rfl (Keep.cons 10 rfl (Keep.cons 52 rfl (Keep.cons 62 rfl Keep.nil)))))))) ?_
          refine at_false rfl ?_
          refine at_skip ?_
          refine at_inBlock ?_
          refine at_region ?_
          refine wl_read rfl rfl rfl (yl_move rfl rfl) ?_
          refine wl_read rfl rfl rfl (yl_add rfl rfl rfl (w64 (by omega) (by omega))) ?_
          refine wl_read rfl rfl rfl (yl_assign rfl rfl) ?_
          refine wl_nil ?_
          refine at_keep (Keep.cons 1 rfl (Keep.cons 5 rfl (Keep.cons 6 rfl (Keep.cons 8 rfl (Keep.cons 9 rfl (Keep.cons 10 rfl (Keep.cons 52 rfl (Keep.cons 62 rfl Keep.nil)))))))) ?_
          exact at_keep (L' := (fun (i : Nat) (t : Sc) => [(1, .slice A9 l2.length c9), (5, .pointer (some ⟨g, 0, none⟩)), (6, .pointer (some ⟨r, 0, none⟩)), (8, .pointer (some ⟨g2, 0, none⟩)), (9, .pointer (some ⟨r2, 0, none⟩)), (10, .int .i64 (i : Int))]) (i + 1) t') (Keep.consEq 1 rfl rfl (Keep.consEq 5 rfl rfl (Keep.consEq 6 rfl rfl (Keep.consEq 8 rfl rfl (Keep.consEq 9 rfl rfl (Keep.consEq 10 rfl rfl Keep.nil)))))) (ih (i + 1) t' ⟨by omega, ht', fun m hm => htsub m (hJ3 m hm)⟩ (by omega))
        · intro h12_6
          refine wl_read rfl rfl rfl (yl_pickT rfl rfl rfl) ?_
          refine wl_nil ?_
          refine at_keep (Keep.cons 1 rfl (Keep.cons 5 rfl (Keep.cons 6 rfl (Keep.cons 8 rfl (Keep.cons 9 rfl (Keep.cons 10 rfl (Keep.cons 52 rfl Keep.nil))))))) ?_
          refine at_false rfl ?_
          refine at_exit rfl ?_
          refine at_seq ?_
          refine at_region ?_
          refine wl_eff rfl rfl rfl (ef_buildSlice (e := 5) ([1, 2, 3] : List UInt8) rfl rfl (fun _ => by kernel_rfl) rfl rfl) ?_
          rintro _ _ ⟨T16_0, rfl, rfl⟩
          refine wl_read rfl rfl rfl (yl_assign rfl rfl) ?_
          refine wl_nil ?_
          refine at_keep (Keep.cons 1 rfl (Keep.cons 5 rfl (Keep.cons 6 rfl (Keep.cons 8 rfl (Keep.cons 9 rfl (Keep.cons 10 rfl (Keep.cons 11 rfl (Keep.cons 52 rfl Keep.nil)))))))) ?_
          refine at_seq ?_
          refine at_seq ?_
          refine at_region ?_
          refine wl_read rfl rfl rfl (yl_move rfl rfl) ?_
          refine wl_heap (fun _ hw => hw.front4) ?_
          refine wl_call rfl rfl rfl (en_call rfl rfl) (len_fn s.p s.k g _ _) ?_
          rintro _ _ ⟨rfl, rfl⟩
          refine wl_read rfl rfl rfl ((yp_lss rfl rfl rfl).1 (by omega)) ?_
          refine wl_read rfl rfl rfl (yl_move rfl rfl) ?_
          refine wl_read rfl rfl rfl (yl_move rfl rfl) ?_
          refine wl_read rfl rfl rfl (yl_move rfl rfl) ?_
          refine wl_call rfl rfl rfl (en_call rfl rfl) (send_fn s.p s.k g _ _ 0 1 ([1, 2, 3] : List UInt8) _ _ o1 (by omega) (by omega) (Rd.of_sl 0 rfl)) ?_
          rintro _ _ ⟨A1, c1, rfl, rfl⟩
          refine wl_read rfl rfl rfl ((yp_neq rfl rfl rfl).2 (by simp)) ?_
          refine wl_read rfl rfl rfl (yl_move rfl rfl) ?_
          refine wl_read rfl rfl rfl (yl_move rfl rfl) ?_
          refine wl_eff rfl rfl rfl (ef_buildSlice (e := 5) ([1, 2, 3] : List UInt8) rfl rfl (fun _ => by kernel_rfl) rfl rfl) ?_
          rintro _ _ ⟨T17_10, rfl, rfl⟩
          refine wl_heap (fun _ hw => hw.front7) ?_
          refine wl_call rfl rfl rfl (en_call rfl rfl) (rsend_fn s.q s.k r _ _ 0 1 ([1, 2, 3] : List UInt8) _ _ o1 (by omega) (by omega) (Rd.of_sl 0 rfl)) ?_
          rintro _ _ ⟨A2, c2, rfl, rfl⟩
          refine wl_read rfl rfl rfl ((yp_neq rfl rfl rfl).2 (by simp)) ?_
          refine wl_read rfl rfl rfl (yl_pickF rfl rfl rfl) ?_
          refine wl_read rfl rfl rfl (yl_pickT rfl rfl rfl) ?_
          refine wl_nil ?_
          refine at_keep (Keep.cons 1 rfl (Keep.cons 5 rfl (Keep.cons 6 rfl (Keep.cons 8 rfl (Keep.cons 9 rfl (Keep.cons 10 rfl (Keep.cons 11 rfl (Keep.cons 52 rfl (Keep.cons 78 rfl Keep.nil))))))))) ?_
          refine at_false rfl ?_
          refine at_skip ?_
          refine at_seq ?_
          refine at_heap (fun _ hw => hw.front2.tail) ?_
          refine at_heap (fun _ hw => hw.front2.front7.front5.front7.front7.front6.front7) ?_
          refine at_region ?_
          refine wl_read rfl rfl rfl (yl_move rfl rfl) ?_
          refine wl_read rfl rfl rfl (yl_index rfl rfl rfl (Rd.of_sl (xs := ([1, 2, 3] : List UInt8)) 4 rfl) (show ([1, 2, 3] : List UInt8)[0]? = some 1 from rfl) rfl rfl Try.underlying27 (by kernel_rfl) rfl) ?_
          refine wl_store rfl rfl (es_at4 (es_storeSl (xs := ([1, 2, 3] : List UInt8)) (j := 0) (i := 0) 4 (9 : UInt8) rfl rfl rfl rfl (by kernel_rfl) rfl (show ([1, 2, 3] : List UInt8)[0]? = some 1 from rfl) rfl rfl)) ?_
          refine wl_nil ?_
          refine at_keep (Keep.cons 1 rfl (Keep.cons 5 rfl (Keep.cons 6 rfl (Keep.cons 8 rfl (Keep.cons 9 rfl (Keep.cons 10 rfl (Keep.cons 11 rfl (Keep.cons 52 rfl (Keep.cons 78 rfl Keep.nil))))))))) ?_
          refine at_seq ?_
          refine at_heap (fun _ hw => hw.front4.tail) ?_
          refine at_heap (fun _ hw => hw.front3.front3.front3.front3.front6.front6.front6) ?_
          refine at_heap (fun _ hw => hw.front1) ?_
          refine at_heap (fun _ hw => hw.poolIn) ?_
          refine at_heap (fun _ hw => hw.front1) ?_
          refine at_heap (fun _ hw => hw.poolIn) ?_
          have hsub : ∀ m, m ∈ s.pl → m ∈ t.pl := fun m hm => hJ3 m (hq4 m hm)
          have hs3 : SOk ⟨(s.p ++ [(⟨0, 1, A1, c1, [1, 2, 3]⟩ : Msg)]), (s.q ++ [(⟨0, 1, A2, c2, [1, 2, 3]⟩ : Msg)]), { s.k with sent := s.k.sent + 1 }, (Msg.mem (⟨0, 1, A2, c2, [1, 2, 3]⟩ : Msg) :: Msg.mem (⟨0, 1, A1, c1, [1, 2, 3]⟩ : Msg) :: t.pl)⟩ 21 := ((hs.pool hsub).add (⟨0, 1, A1, c1, [1, 2, 3]⟩ : Msg) (⟨0, 1, A2, c2, [1, 2, 3]⟩ : Msg) rfl (by simp) { s.k with sent := s.k.sent + 1 } (.inl rfl)).to (by omega)
          have ht3 : SOk ⟨t.p, t.q, t.k, (Msg.mem (⟨0, 1, A2, c2, [1, 2, 3]⟩ : Msg) :: Msg.mem (⟨0, 1, A1, c1, [1, 2, 3]⟩ : Msg) :: t.pl)⟩ 40 := (ht.pool (fun m hm => List.mem_cons_of_mem _ (List.mem_cons_of_mem _ hm))).to (by omega)
          have hl3 : (s.p ++ [(⟨0, 1, A1, c1, [1, 2, 3]⟩ : Msg)]).length = s.p.length + 1 := by simp
          have he2 : at_ (s.p ++ [(⟨0, 1, A1, c1, [1, 2, 3]⟩ : Msg)]) s.p.length = (⟨0, 1, A1, c1, [1, 2, 3]⟩ : Msg) := at_app_last _ _
          refine at_region ?_
          refine wl_read rfl rfl rfl (yl_move rfl rfl) ?_
          refine wl_read rfl rfl rfl (yl_move rfl rfl) ?_
          refine wl_heap (fun _ hw => hw.front1) ?_
          refine wl_call rfl rfl rfl (en_call rfl rfl) (len_fn (s.p ++ [(⟨0, 1, A1, c1, [1, 2, 3]⟩ : Msg)]) { s.k with sent := s.k.sent + 1 } g _ _) ?_
          rintro _ _ ⟨rfl, rfl⟩
          refine wl_read rfl rfl rfl (yl_sub (r := (s.p.length : Int)) rfl rfl rfl (by rw [hl3, w64 (by omega) (by omega)]; omega)) ?_
          refine wl_call rfl rfl rfl (en_call rfl rfl) (at_cl (s.p ++ [(⟨0, 1, A1, c1, [1, 2, 3]⟩ : Msg)]) { s.k with sent := s.k.sent + 1 } g s.p.length _ _ (okP hs3 (by omega) 0 rfl) (by omega)) ?_
          rintro _ _ ⟨A5, c5, rfl, rfl⟩
          rw [he2]
          refine wl_read rfl rfl rfl (yl_move rfl rfl) ?_
          refine wl_read rfl rfl rfl (yl_extract rfl rfl rfl) ?_
          refine wl_read rfl rfl rfl (yl_extract rfl rfl rfl) ?_
          refine wl_eff rfl rfl rfl (ef_alloc (cs := [.int .i64 0, .int .i64 0, .slice none 0 0]) (z := .agg #[.int .i64 0, .int .i64 0, .slice none 0 0]) rfl (by kernel_rfl) rfl) ?_
          rintro _ _ ⟨gy, rfl, rfl⟩
          refine wl_store rfl rfl (es_at0 (es_storeN 0 rfl rfl rfl rfl (by kernel_rfl) rfl rfl)) ?_
          refine wl_read rfl rfl rfl (yl_assign rfl rfl) ?_
          refine wl_nil ?_
          refine at_keep (Keep.cons 1 rfl (Keep.cons 5 rfl (Keep.cons 6 rfl (Keep.cons 8 rfl (Keep.cons 9 rfl (Keep.cons 10 rfl (Keep.cons 11 rfl (Keep.cons 12 rfl (Keep.cons 13 rfl (Keep.cons 52 rfl (Keep.cons 78 rfl Keep.nil))))))))))) ?_
          refine at_seq ?_
          refine at_seq ?_
          refine at_region ?_
          refine wl_read rfl rfl rfl (yl_move rfl rfl) ?_
          refine wl_read rfl rfl rfl (yl_move rfl rfl) ?_
          refine wl_read rfl rfl rfl (yl_fieldB rfl rfl Try.underlying33 rfl (by kernel_rfl) rfl) ?_
          refine wl_read rfl rfl rfl (yl_load rfl rfl Try.underlying27 rfl (CellAt.bk 0 rfl rfl)) ?_
          refine wl_read rfl rfl rfl (yl_len rfl rfl Try.underlying27) ?_
          refine wl_read rfl rfl rfl ((yp_gtr rfl rfl rfl).1 (by show (0 : Int) < ((3 : Nat) : Int); decide)) ?_
          refine wl_read rfl rfl rfl (yl_pickT rfl rfl rfl) ?_
          refine wl_nil ?_
          refine at_keep (Keep.cons 1 rfl (Keep.cons 5 rfl (Keep.cons 6 rfl (Keep.cons 8 rfl (Keep.cons 9 rfl (Keep.cons 10 rfl (Keep.cons 11 rfl (Keep.cons 12 rfl (Keep.cons 13 rfl (Keep.cons 52 rfl (Keep.cons 78 rfl (Keep.cons 95 rfl Keep.nil)))))))))))) ?_
          refine at_true rfl ?_
          refine at_region ?_
          refine wl_read rfl rfl rfl (yl_fieldB rfl rfl Try.underlying33 rfl (by kernel_rfl) rfl) ?_
          refine wl_read rfl rfl rfl (yl_load rfl rfl Try.underlying27 rfl (CellAt.bk 0 rfl rfl)) ?_
          refine wl_read rfl rfl rfl (yl_index rfl rfl rfl (Rd.of_sl (xs := ([1, 2, 3] : List UInt8)) 1 rfl) (show ([1, 2, 3] : List UInt8)[0]? = some 1 from rfl) rfl rfl Try.underlying27 (by kernel_rfl) rfl) ?_
          refine wl_store rfl rfl (es_at1 (es_storeSl (xs := ([1, 2, 3] : List UInt8)) (j := 0) (i := 0) 1 (77 : UInt8) rfl rfl rfl rfl (by kernel_rfl) rfl (show ([1, 2, 3] : List UInt8)[0]? = some 1 from rfl) rfl rfl)) ?_
          refine wl_nil ?_
          refine at_keep (Keep.cons 1 rfl (Keep.cons 5 rfl (Keep.cons 6 rfl (Keep.cons 8 rfl (Keep.cons 9 rfl (Keep.cons 10 rfl (Keep.cons 11 rfl (Keep.cons 12 rfl (Keep.cons 13 rfl (Keep.cons 52 rfl (Keep.cons 78 rfl (Keep.cons 95 rfl Keep.nil)))))))))))) ?_
          refine at_seq ?_
          refine at_heap (fun _ hw => hw.tail) ?_
          refine at_heap (fun _ hw => hw.tail) ?_
          refine at_heap (fun _ hw => hw.front1.front2.front2) ?_
          refine at_region ?_
          refine wl_read rfl rfl rfl (yl_move rfl rfl) ?_
          refine wl_read rfl rfl rfl (yl_move rfl rfl) ?_
          refine wl_call rfl rfl rfl (en_call rfl rfl) (same_fn ⟨(s.p ++ [(⟨0, 1, A1, c1, [1, 2, 3]⟩ : Msg)]), (s.q ++ [(⟨0, 1, A2, c2, [1, 2, 3]⟩ : Msg)]), { s.k with sent := s.k.sent + 1 }, (Msg.mem (⟨0, 1, A2, c2, [1, 2, 3]⟩ : Msg) :: Msg.mem (⟨0, 1, A1, c1, [1, 2, 3]⟩ : Msg) :: t.pl)⟩ 21 g r _ _ hs3 (by omega)) ?_
          rintro _ _ ⟨rfl, rfl⟩
          refine wl_read rfl rfl rfl (yl_move rfl rfl) ?_
          refine wl_read rfl rfl rfl (yl_move rfl rfl) ?_
          refine wl_read rfl rfl rfl (yl_move rfl rfl) ?_
          refine wl_heap (fun _ hw => hw.front2.front4.front4) ?_
          refine wl_call rfl rfl rfl (en_call rfl rfl) (same_fn ⟨t.p, t.q, t.k, (Msg.mem (⟨0, 1, A2, c2, [1, 2, 3]⟩ : Msg) :: Msg.mem (⟨0, 1, A1, c1, [1, 2, 3]⟩ : Msg) :: t.pl)⟩ 40 g2 r2 _ _ ht3 (by omega)) ?_
          rintro _ _ ⟨rfl, rfl⟩
          refine wl_read rfl rfl rfl (yl_pickT rfl rfl rfl) ?_
          refine wl_read rfl rfl rfl (yl_assign rfl rfl) ?_
          refine wl_nil ?_
          refine at_keep (Keep.cons 1 rfl (Keep.cons 4 rfl (Keep.cons 5 rfl (Keep.cons 6 rfl (Keep.cons 8 rfl (Keep.cons 9 rfl (Keep.cons 10 rfl (Keep.cons 11 rfl (Keep.cons 12 rfl (Keep.cons 13 rfl (Keep.cons 52 rfl (Keep.cons 78 rfl (Keep.cons 95 rfl Keep.nil))))))))))))) ?_
          refine at_retH (fun _ hw => hw.tail.tail.tail.tail.tail) Try.func9 (res1 rfl rfl) ?_
          exact ⟨rfl, rfl⟩
      · intro h12_3
        refine wl_read rfl rfl rfl (yl_move rfl rfl) ?_
        refine wl_skip rfl rfl rfl ?_
        refine wl_skip rfl rfl rfl ?_
        refine wl_read rfl rfl rfl (yl_pickF rfl rfl rfl) ?_
        refine wl_nil ?_
        refine at_keep (Keep.cons 1 rfl (Keep.cons 5 rfl (Keep.cons 6 rfl (Keep.cons 8 rfl (Keep.cons 9 rfl (Keep.cons 10 rfl (Keep.cons 52 rfl Keep.nil))))))) ?_
        refine at_false rfl ?_
        refine at_exit rfl ?_
        refine at_seq ?_
        refine at_region ?_
        refine wl_eff rfl rfl rfl (ef_buildSlice (e := 5) ([1, 2, 3] : List UInt8) rfl rfl (fun _ => by kernel_rfl) rfl rfl) ?_
        rintro _ _ ⟨T16_0, rfl, rfl⟩
        refine wl_read rfl rfl rfl (yl_assign rfl rfl) ?_
        refine wl_nil ?_
        refine at_keep (Keep.cons 1 rfl (Keep.cons 5 rfl (Keep.cons 6 rfl (Keep.cons 8 rfl (Keep.cons 9 rfl (Keep.cons 10 rfl (Keep.cons 11 rfl (Keep.cons 52 rfl Keep.nil)))))))) ?_
        refine at_seq ?_
        refine at_seq ?_
        refine at_region ?_
        refine wl_read rfl rfl rfl (yl_move rfl rfl) ?_
        refine wl_heap (fun _ hw => hw.front4) ?_
        refine wl_call rfl rfl rfl (en_call rfl rfl) (len_fn s.p s.k g _ _) ?_
        rintro _ _ ⟨rfl, rfl⟩
        refine wl_read rfl rfl rfl ((yp_lss rfl rfl rfl).1 (by omega)) ?_
        refine wl_read rfl rfl rfl (yl_move rfl rfl) ?_
        refine wl_read rfl rfl rfl (yl_move rfl rfl) ?_
        refine wl_read rfl rfl rfl (yl_move rfl rfl) ?_
        refine wl_call rfl rfl rfl (en_call rfl rfl) (send_fn s.p s.k g _ _ 0 1 ([1, 2, 3] : List UInt8) _ _ o1 (by omega) (by omega) (Rd.of_sl 0 rfl)) ?_
        rintro _ _ ⟨A1, c1, rfl, rfl⟩
        refine wl_read rfl rfl rfl ((yp_neq rfl rfl rfl).2 (by simp)) ?_
        refine wl_read rfl rfl rfl (yl_move rfl rfl) ?_
        refine wl_read rfl rfl rfl (yl_move rfl rfl) ?_
        refine wl_eff rfl rfl rfl (ef_buildSlice (e := 5) ([1, 2, 3] : List UInt8) rfl rfl (fun _ => by kernel_rfl) rfl rfl) ?_
        rintro _ _ ⟨T17_10, rfl, rfl⟩
        refine wl_heap (fun _ hw => hw.front7) ?_
        refine wl_call rfl rfl rfl (en_call rfl rfl) (rsend_fn s.q s.k r _ _ 0 1 ([1, 2, 3] : List UInt8) _ _ o1 (by omega) (by omega) (Rd.of_sl 0 rfl)) ?_
        rintro _ _ ⟨A2, c2, rfl, rfl⟩
        refine wl_read rfl rfl rfl ((yp_neq rfl rfl rfl).2 (by simp)) ?_
        refine wl_read rfl rfl rfl (yl_pickF rfl rfl rfl) ?_
        refine wl_read rfl rfl rfl (yl_pickT rfl rfl rfl) ?_
        refine wl_nil ?_
        refine at_keep (Keep.cons 1 rfl (Keep.cons 5 rfl (Keep.cons 6 rfl (Keep.cons 8 rfl (Keep.cons 9 rfl (Keep.cons 10 rfl (Keep.cons 11 rfl (Keep.cons 52 rfl (Keep.cons 78 rfl Keep.nil))))))))) ?_
        refine at_false rfl ?_
        refine at_skip ?_
        refine at_seq ?_
        refine at_heap (fun _ hw => hw.front2.tail) ?_
        refine at_heap (fun _ hw => hw.front2.front7.front5.front7.front7.front6.front7) ?_
        refine at_region ?_
        refine wl_read rfl rfl rfl (yl_move rfl rfl) ?_
        refine wl_read rfl rfl rfl (yl_index rfl rfl rfl (Rd.of_sl (xs := ([1, 2, 3] : List UInt8)) 4 rfl) (show ([1, 2, 3] : List UInt8)[0]? = some 1 from rfl) rfl rfl Try.underlying27 (by kernel_rfl) rfl) ?_
        refine wl_store rfl rfl (es_at4 (es_storeSl (xs := ([1, 2, 3] : List UInt8)) (j := 0) (i := 0) 4 (9 : UInt8) rfl rfl rfl rfl (by kernel_rfl) rfl (show ([1, 2, 3] : List UInt8)[0]? = some 1 from rfl) rfl rfl)) ?_
        refine wl_nil ?_
        refine at_keep (Keep.cons 1 rfl (Keep.cons 5 rfl (Keep.cons 6 rfl (Keep.cons 8 rfl (Keep.cons 9 rfl (Keep.cons 10 rfl (Keep.cons 11 rfl (Keep.cons 52 rfl (Keep.cons 78 rfl Keep.nil))))))))) ?_
        refine at_seq ?_
        refine at_heap (fun _ hw => hw.front4.tail) ?_
        refine at_heap (fun _ hw => hw.front3.front3.front3.front3.front6.front6.front6) ?_
        refine at_heap (fun _ hw => hw.front1) ?_
        refine at_heap (fun _ hw => hw.poolIn) ?_
        refine at_heap (fun _ hw => hw.front1) ?_
        refine at_heap (fun _ hw => hw.poolIn) ?_
        have hsub : ∀ m, m ∈ s.pl → m ∈ t.pl := fun m hm => hJ3 m (hq4 m hm)
        have hs3 : SOk ⟨(s.p ++ [(⟨0, 1, A1, c1, [1, 2, 3]⟩ : Msg)]), (s.q ++ [(⟨0, 1, A2, c2, [1, 2, 3]⟩ : Msg)]), { s.k with sent := s.k.sent + 1 }, (Msg.mem (⟨0, 1, A2, c2, [1, 2, 3]⟩ : Msg) :: Msg.mem (⟨0, 1, A1, c1, [1, 2, 3]⟩ : Msg) :: t.pl)⟩ 21 := ((hs.pool hsub).add (⟨0, 1, A1, c1, [1, 2, 3]⟩ : Msg) (⟨0, 1, A2, c2, [1, 2, 3]⟩ : Msg) rfl (by simp) { s.k with sent := s.k.sent + 1 } (.inl rfl)).to (by omega)
        have ht3 : SOk ⟨t.p, t.q, t.k, (Msg.mem (⟨0, 1, A2, c2, [1, 2, 3]⟩ : Msg) :: Msg.mem (⟨0, 1, A1, c1, [1, 2, 3]⟩ : Msg) :: t.pl)⟩ 40 := (ht.pool (fun m hm => List.mem_cons_of_mem _ (List.mem_cons_of_mem _ hm))).to (by omega)
        have hl3 : (s.p ++ [(⟨0, 1, A1, c1, [1, 2, 3]⟩ : Msg)]).length = s.p.length + 1 := by simp
        have he2 : at_ (s.p ++ [(⟨0, 1, A1, c1, [1, 2, 3]⟩ : Msg)]) s.p.length = (⟨0, 1, A1, c1, [1, 2, 3]⟩ : Msg) := at_app_last _ _
        refine at_region ?_
        refine wl_read rfl rfl rfl (yl_move rfl rfl) ?_
        refine wl_read rfl rfl rfl (yl_move rfl rfl) ?_
        refine wl_heap (fun _ hw => hw.front1) ?_
        refine wl_call rfl rfl rfl (en_call rfl rfl) (len_fn (s.p ++ [(⟨0, 1, A1, c1, [1, 2, 3]⟩ : Msg)]) { s.k with sent := s.k.sent + 1 } g _ _) ?_
        rintro _ _ ⟨rfl, rfl⟩
        refine wl_read rfl rfl rfl (yl_sub (r := (s.p.length : Int)) rfl rfl rfl (by rw [hl3, w64 (by omega) (by omega)]; omega)) ?_
        refine wl_call rfl rfl rfl (en_call rfl rfl) (at_cl (s.p ++ [(⟨0, 1, A1, c1, [1, 2, 3]⟩ : Msg)]) { s.k with sent := s.k.sent + 1 } g s.p.length _ _ (okP hs3 (by omega) 0 rfl) (by omega)) ?_
        rintro _ _ ⟨A5, c5, rfl, rfl⟩
        rw [he2]
        refine wl_read rfl rfl rfl (yl_move rfl rfl) ?_
        refine wl_read rfl rfl rfl (yl_extract rfl rfl rfl) ?_
        refine wl_read rfl rfl rfl (yl_extract rfl rfl rfl) ?_
        refine wl_eff rfl rfl rfl (ef_alloc (cs := [.int .i64 0, .int .i64 0, .slice none 0 0]) (z := .agg #[.int .i64 0, .int .i64 0, .slice none 0 0]) rfl (by kernel_rfl) rfl) ?_
        rintro _ _ ⟨gy, rfl, rfl⟩
        refine wl_store rfl rfl (es_at0 (es_storeN 0 rfl rfl rfl rfl (by kernel_rfl) rfl rfl)) ?_
        refine wl_read rfl rfl rfl (yl_assign rfl rfl) ?_
        refine wl_nil ?_
        refine at_keep (Keep.cons 1 rfl (Keep.cons 5 rfl (Keep.cons 6 rfl (Keep.cons 8 rfl (Keep.cons 9 rfl (Keep.cons 10 rfl (Keep.cons 11 rfl (Keep.cons 12 rfl (Keep.cons 13 rfl (Keep.cons 52 rfl (Keep.cons 78 rfl Keep.nil))))))))))) ?_
        refine at_seq ?_
        refine at_seq ?_
        refine at_region ?_
        refine wl_read rfl rfl rfl (yl_move rfl rfl) ?_
        refine wl_read rfl rfl rfl (yl_move rfl rfl) ?_
        refine wl_read rfl rfl rfl (yl_fieldB rfl rfl Try.underlying33 rfl (by kernel_rfl) rfl) ?_
        refine wl_read rfl rfl rfl (yl_load rfl rfl Try.underlying27 rfl (CellAt.bk 0 rfl rfl)) ?_
        refine wl_read rfl rfl rfl (yl_len rfl rfl Try.underlying27) ?_
        refine wl_read rfl rfl rfl ((yp_gtr rfl rfl rfl).1 (by show (0 : Int) < ((3 : Nat) : Int); decide)) ?_
        refine wl_read rfl rfl rfl (yl_pickT rfl rfl rfl) ?_
        refine wl_nil ?_
        refine at_keep (Keep.cons 1 rfl (Keep.cons 5 rfl (Keep.cons 6 rfl (Keep.cons 8 rfl (Keep.cons 9 rfl (Keep.cons 10 rfl (Keep.cons 11 rfl (Keep.cons 12 rfl (Keep.cons 13 rfl (Keep.cons 52 rfl (Keep.cons 78 rfl (Keep.cons 95 rfl Keep.nil)))))))))))) ?_
        refine at_true rfl ?_
        refine at_region ?_
        refine wl_read rfl rfl rfl (yl_fieldB rfl rfl Try.underlying33 rfl (by kernel_rfl) rfl) ?_
        refine wl_read rfl rfl rfl (yl_load rfl rfl Try.underlying27 rfl (CellAt.bk 0 rfl rfl)) ?_
        refine wl_read rfl rfl rfl (yl_index rfl rfl rfl (Rd.of_sl (xs := ([1, 2, 3] : List UInt8)) 1 rfl) (show ([1, 2, 3] : List UInt8)[0]? = some 1 from rfl) rfl rfl Try.underlying27 (by kernel_rfl) rfl) ?_
        refine wl_store rfl rfl (es_at1 (es_storeSl (xs := ([1, 2, 3] : List UInt8)) (j := 0) (i := 0) 1 (77 : UInt8) rfl rfl rfl rfl (by kernel_rfl) rfl (show ([1, 2, 3] : List UInt8)[0]? = some 1 from rfl) rfl rfl)) ?_
        refine wl_nil ?_
        refine at_keep (Keep.cons 1 rfl (Keep.cons 5 rfl (Keep.cons 6 rfl (Keep.cons 8 rfl (Keep.cons 9 rfl (Keep.cons 10 rfl (Keep.cons 11 rfl (Keep.cons 12 rfl (Keep.cons 13 rfl (Keep.cons 52 rfl (Keep.cons 78 rfl (Keep.cons 95 rfl Keep.nil)))))))))))) ?_
        refine at_seq ?_
        refine at_heap (fun _ hw => hw.tail) ?_
        refine at_heap (fun _ hw => hw.tail) ?_
        refine at_heap (fun _ hw => hw.front1.front2.front2) ?_
        refine at_region ?_
        refine wl_read rfl rfl rfl (yl_move rfl rfl) ?_
        refine wl_read rfl rfl rfl (yl_move rfl rfl) ?_
        refine wl_call rfl rfl rfl (en_call rfl rfl) (same_fn ⟨(s.p ++ [(⟨0, 1, A1, c1, [1, 2, 3]⟩ : Msg)]), (s.q ++ [(⟨0, 1, A2, c2, [1, 2, 3]⟩ : Msg)]), { s.k with sent := s.k.sent + 1 }, (Msg.mem (⟨0, 1, A2, c2, [1, 2, 3]⟩ : Msg) :: Msg.mem (⟨0, 1, A1, c1, [1, 2, 3]⟩ : Msg) :: t.pl)⟩ 21 g r _ _ hs3 (by omega)) ?_
        rintro _ _ ⟨rfl, rfl⟩
        refine wl_read rfl rfl rfl (yl_move rfl rfl) ?_
        refine wl_read rfl rfl rfl (yl_move rfl rfl) ?_
        refine wl_read rfl rfl rfl (yl_move rfl rfl) ?_
        refine wl_heap (fun _ hw => hw.front2.front4.front4) ?_
        refine wl_call rfl rfl rfl (en_call rfl rfl) (same_fn ⟨t.p, t.q, t.k, (Msg.mem (⟨0, 1, A2, c2, [1, 2, 3]⟩ : Msg) :: Msg.mem (⟨0, 1, A1, c1, [1, 2, 3]⟩ : Msg) :: t.pl)⟩ 40 g2 r2 _ _ ht3 (by omega)) ?_
        rintro _ _ ⟨rfl, rfl⟩
        refine wl_read rfl rfl rfl (yl_pickT rfl rfl rfl) ?_
        refine wl_read rfl rfl rfl (yl_assign rfl rfl) ?_
        refine wl_nil ?_
        refine at_keep (Keep.cons 1 rfl (Keep.cons 4 rfl (Keep.cons 5 rfl (Keep.cons 6 rfl (Keep.cons 8 rfl (Keep.cons 9 rfl (Keep.cons 10 rfl (Keep.cons 11 rfl (Keep.cons 12 rfl (Keep.cons 13 rfl (Keep.cons 52 rfl (Keep.cons 78 rfl (Keep.cons 95 rfl Keep.nil))))))))))))) ?_
        refine at_retH (fun _ hw => hw.tail.tail.tail.tail.tail) Try.func9 (res1 rfl rfl) ?_
        exact ⟨rfl, rfl⟩
  · intro h3_3
    refine wl_read rfl rfl rfl (yl_move rfl rfl) ?_
    refine wl_skip rfl rfl rfl ?_
    refine wl_skip rfl rfl rfl ?_
    refine wl_read rfl rfl rfl (yl_pickF rfl rfl rfl) ?_
    refine wl_nil ?_
    refine at_keep (Keep.cons 0 rfl (Keep.cons 1 rfl (Keep.cons 5 rfl (Keep.cons 6 rfl (Keep.cons 7 rfl (Keep.cons 24 rfl Keep.nil)))))) ?_
    refine at_false rfl ?_
    refine at_exit rfl ?_
    refine at_seq ?_
    have hlen := hs.len
    have hks := hs.ks
    have hlq := hs.lenq
    refine at_region ?_
    refine wl_read rfl rfl rfl (yl_move rfl rfl) ?_
    refine wl_call rfl rfl rfl (en_call rfl rfl) (fork_fn s.p s.k g _ _ (by omega)) ?_
    rintro _ _ ⟨g2, rfl, rfl⟩
    refine wl_read rfl rfl rfl (yl_assign rfl rfl) ?_
    refine wl_nil ?_
    refine at_keep (Keep.cons 0 rfl (Keep.cons 1 rfl (Keep.cons 5 rfl (Keep.cons 6 rfl (Keep.cons 7 rfl (Keep.cons 8 rfl (Keep.cons 24 rfl Keep.nil))))))) ?_
    refine at_seq ?_
    refine at_seq ?_
    refine at_region ?_
    refine wl_read rfl rfl rfl (yl_move rfl rfl) ?_
    refine wl_read rfl rfl rfl (yl_eqPtr rfl rfl rfl (by kernel_rfl) rfl) ?_
    refine wl_read rfl rfl rfl (yl_move rfl rfl) ?_
    refine wl_call rfl rfl rfl (en_call rfl rfl) (awake_fn _ _) ?_
    rintro _ _ ⟨rfl, rfl⟩
    refine wl_read rfl rfl rfl (yl_notT rfl rfl) ?_
    refine wl_read rfl rfl rfl (yl_pickF rfl rfl rfl) ?_
    refine wl_nil ?_
    refine at_keep (Keep.cons 0 rfl (Keep.cons 1 rfl (Keep.cons 5 rfl (Keep.cons 6 rfl (Keep.cons 7 rfl (Keep.cons 8 rfl (Keep.cons 24 rfl (Keep.cons 42 rfl Keep.nil)))))))) ?_
    refine at_false rfl ?_
    refine at_skip ?_
    refine at_seq ?_
    refine at_heap (fun _ hw => hw.front3.front3) ?_
    refine at_region ?_
    refine wl_read rfl rfl rfl (yl_move rfl rfl) ?_
    refine wl_call rfl rfl rfl (en_call rfl rfl) (rfork_fn s.q s.k s.pl r _ _ (by omega) hs.inq hs.szq) ?_
    rintro _ _ ⟨r2, qs, pl2, rfl, hq1, hq2, hq3, hq4, rfl⟩
    refine wl_read rfl rfl rfl (yl_assign rfl rfl) ?_
    refine wl_nil ?_
    refine at_keep (Keep.cons 0 rfl (Keep.cons 1 rfl (Keep.cons 5 rfl (Keep.cons 6 rfl (Keep.cons 7 rfl (Keep.cons 8 rfl (Keep.cons 9 rfl (Keep.cons 24 rfl (Keep.cons 42 rfl Keep.nil))))))))) ?_
    refine at_seq ?_
    refine at_seq ?_
    refine at_heap (fun _ hw => hw.front1.front4.front3.front3.front4) ?_
    have hs2 : SOk ⟨s.p, qs, s.k, pl2⟩ 20 := (hs.fork hq1 hq2 hq3 hq4).to (by omega)
    refine at_region ?_
    refine wl_read rfl rfl rfl (yl_assign rfl rfl) ?_
    refine wl_nil ?_
    refine at_keep (Keep.cons 0 rfl (Keep.cons 1 rfl (Keep.cons 5 rfl (Keep.cons 6 rfl (Keep.cons 7 rfl (Keep.cons 8 rfl (Keep.cons 9 rfl (Keep.cons 10 rfl (Keep.cons 24 rfl (Keep.cons 42 rfl Keep.nil)))))))))) ?_
    refine at_block ?_
    refine at_keep (L' := (fun (i : Nat) (t : Sc) => [(1, .slice A9 l2.length c9), (5, .pointer (some ⟨g, 0, none⟩)), (6, .pointer (some ⟨r, 0, none⟩)), (8, .pointer (some ⟨g2, 0, none⟩)), (9, .pointer (some ⟨r2, 0, none⟩)), (10, .int .i64 (i : Int))]) 0 ⟨s.p, qs, s.k, pl2⟩) (Keep.consEq 1 rfl rfl (Keep.consEq 5 rfl rfl (Keep.consEq 6 rfl rfl (Keep.consEq 8 rfl rfl (Keep.consEq 9 rfl rfl (Keep.consEq 10 rfl rfl Keep.nil)))))) ?_
    refine at_loop2 (fun (i : Nat) (t : Sc) => i ≤ 20 ∧ SOk t (20 + i) ∧ ∀ m, m ∈ pl2 → m ∈ t.pl) (fun (i : Nat) (t : Sc) => [(1, .slice A9 l2.length c9), (5, .pointer (some ⟨g, 0, none⟩)), (6, .pointer (some ⟨r, 0, none⟩)), (8, .pointer (some ⟨g2, 0, none⟩)), (9, .pointer (some ⟨r2, 0, none⟩)), (10, .int .i64 (i : Int))]) (fun (i : Nat) (t : Sc) => Chn 58 g2 t.p t.k :: Chn 42 r2 t.q t.k :: Pool t.pl :: Chn 58 g s.p s.k :: Chn 42 r s.q s.k :: H) (fun (i : Nat) (t : Sc) => l2.length - i) 0 ⟨s.p, qs, s.k, pl2⟩ ⟨by omega, hs2, fun _ h => h⟩ ?_
    intro i t hI0 ih
    obtain ⟨hJ1, ht, hJ3⟩ := hI0
    refine at_seq ?_
    refine at_seq ?_
    refine at_region ?_
    refine wl_read rfl rfl rfl (yl_move rfl rfl) ?_
    refine wl_read rfl rfl rfl (yl_move rfl rfl) ?_
    refine wl_read rfl rfl rfl (yl_len rfl rfl Try.underlying38) ?_
    refine wl_split rfl rfl rfl (yp_lss rfl rfl rfl) ?_ ?_
    · intro h12_3
      refine wl_read rfl rfl rfl (yl_move rfl rfl) ?_
      refine wl_read rfl rfl rfl (yl_move rfl rfl) ?_
      refine wl_split rfl rfl rfl (yp_lss rfl rfl rfl) ?_ ?_
      · intro h12_6
        refine wl_read rfl rfl rfl (yl_pickT rfl rfl rfl) ?_
        refine wl_nil ?_
        refine at_keep (Keep.cons 1 rfl (Keep.cons 5 rfl (Keep.cons 6 rfl (Keep.cons 8 rfl (Keep.cons 9 rfl (Keep.cons 10 rfl (Keep.cons 52 rfl Keep.nil))))))) ?_
        refine at_true rfl ?_
        refine at_skip ?_
        refine at_seq ?_
        refine at_block ?_
        refine at_seq ?_
        have hj2 : i < l2.length := by omega
        refine at_region ?_
        refine wl_read rfl rfl rfl (yl_move rfl rfl) ?_
        refine wl_read rfl rfl rfl (yl_move rfl rfl) ?_
        refine wl_read rfl rfl rfl (yl_move rfl rfl) ?_
        refine wl_read rfl rfl rfl (yl_move rfl rfl) ?_
        refine wl_read rfl rfl rfl (yl_index rfl rfl rfl (((((hR2.cons _).cons _).cons _).cons _).cons _) (at_some hj2) rfl rfl Try.underlying38 (by kernel_rfl) rfl) ?_
        refine wl_read rfl rfl rfl (yl_loadRow rfl rfl (((((hR2.cons _).cons _).cons _).cons _).cons _) (at_some hj2) Try.underlying45 rfl (by kernel_rfl) rfl) ?_
        refine wl_call rfl rfl rfl (en_call rfl rfl) (step_fn t (20 + i) g2 r2 (at_ l2 i) _ _ ht (by omega) (((hE2 _ (at_in hj2)).cons _).cons _) (hI2 _ (at_in hj2))) ?_
        rintro _ _ ⟨rfl, t', ht', htsub, rfl⟩
        refine wl_read rfl rfl rfl (yl_notT rfl rfl) ?_
        refine wl_nil ?_
        refine at_keep (Keep.cons 1 rfl (Keep.cons 5 rfl (Keep.cons 6 rfl (Keep.cons 8 rfl (Keep.cons 9 rfl (Keep.cons 10 rfl (Keep.cons 52 rfl (Keep.cons 62 rfl Keep.nil)))))))) ?_
        refine at_false rfl ?_
        refine at_skip ?_
        refine at_inBlock ?_
        refine at_region ?_
        refine wl_read rfl rfl rfl (yl_move rfl rfl) ?_
        refine wl_read rfl rfl rfl (yl_add rfl rfl rfl (w64 (by omega) (by omega))) ?_
        refine wl_read rfl rfl rfl (yl_assign rfl rfl) ?_
        refine wl_nil ?_
        refine at_keep (Keep.cons 1 rfl (Keep.cons 5 rfl (Keep.cons 6 rfl (Keep.cons 8 rfl (Keep.cons 9 rfl (Keep.cons 10 rfl (Keep.cons 52 rfl (Keep.cons 62 rfl Keep.nil)))))))) ?_
        exact at_keep (L' := (fun (i : Nat) (t : Sc) => [(1, .slice A9 l2.length c9), (5, .pointer (some ⟨g, 0, none⟩)), (6, .pointer (some ⟨r, 0, none⟩)), (8, .pointer (some ⟨g2, 0, none⟩)), (9, .pointer (some ⟨r2, 0, none⟩)), (10, .int .i64 (i : Int))]) (i + 1) t') (Keep.consEq 1 rfl rfl (Keep.consEq 5 rfl rfl (Keep.consEq 6 rfl rfl (Keep.consEq 8 rfl rfl (Keep.consEq 9 rfl rfl (Keep.consEq 10 rfl rfl Keep.nil)))))) (ih (i + 1) t' ⟨by omega, ht', fun m hm => htsub m (hJ3 m hm)⟩ (by omega))
      · intro h12_6
        refine wl_read rfl rfl rfl (yl_pickT rfl rfl rfl) ?_
        refine wl_nil ?_
        refine at_keep (Keep.cons 1 rfl (Keep.cons 5 rfl (Keep.cons 6 rfl (Keep.cons 8 rfl (Keep.cons 9 rfl (Keep.cons 10 rfl (Keep.cons 52 rfl Keep.nil))))))) ?_
        refine at_false rfl ?_
        refine at_exit rfl ?_
        refine at_seq ?_
        refine at_region ?_
        refine wl_eff rfl rfl rfl (ef_buildSlice (e := 5) ([1, 2, 3] : List UInt8) rfl rfl (fun _ => by kernel_rfl) rfl rfl) ?_
        rintro _ _ ⟨T16_0, rfl, rfl⟩
        refine wl_read rfl rfl rfl (yl_assign rfl rfl) ?_
        refine wl_nil ?_
        refine at_keep (Keep.cons 1 rfl (Keep.cons 5 rfl (Keep.cons 6 rfl (Keep.cons 8 rfl (Keep.cons 9 rfl (Keep.cons 10 rfl (Keep.cons 11 rfl (Keep.cons 52 rfl Keep.nil)))))))) ?_
        refine at_seq ?_
        refine at_seq ?_
        refine at_region ?_
        refine wl_read rfl rfl rfl (yl_move rfl rfl) ?_
        refine wl_heap (fun _ hw => hw.front4) ?_
        refine wl_call rfl rfl rfl (en_call rfl rfl) (len_fn s.p s.k g _ _) ?_
        rintro _ _ ⟨rfl, rfl⟩
        refine wl_read rfl rfl rfl ((yp_lss rfl rfl rfl).1 (by omega)) ?_
        refine wl_read rfl rfl rfl (yl_move rfl rfl) ?_
        refine wl_read rfl rfl rfl (yl_move rfl rfl) ?_
        refine wl_read rfl rfl rfl (yl_move rfl rfl) ?_
        refine wl_call rfl rfl rfl (en_call rfl rfl) (send_fn s.p s.k g _ _ 0 1 ([1, 2, 3] : List UInt8) _ _ o1 (by omega) (by omega) (Rd.of_sl 0 rfl)) ?_
        rintro _ _ ⟨A1, c1, rfl, rfl⟩
        refine wl_read rfl rfl rfl ((yp_neq rfl rfl rfl).2 (by simp)) ?_
        refine wl_read rfl rfl rfl (yl_move rfl rfl) ?_
        refine wl_read rfl rfl rfl (yl_move rfl rfl) ?_
        refine wl_eff rfl rfl rfl (ef_buildSlice (e := 5) ([1, 2, 3] : List UInt8) rfl rfl (fun _ => by kernel_rfl) rfl rfl) ?_
        rintro _ _ ⟨T17_10, rfl, rfl⟩
        refine wl_heap (fun _ hw => hw.front7) ?_
        refine wl_call rfl rfl rfl (en_call rfl rfl) (rsend_fn s.q s.k r _ _ 0 1 ([1, 2, 3] : List UInt8) _ _ o1 (by omega) (by omega) (Rd.of_sl 0 rfl)) ?_
        rintro _ _ ⟨A2, c2, rfl, rfl⟩
        refine wl_read rfl rfl rfl ((yp_neq rfl rfl rfl).2 (by simp)) ?_
        refine wl_read rfl rfl rfl (yl_pickF rfl rfl rfl) ?_
        refine wl_read rfl rfl rfl (yl_pickT rfl rfl rfl) ?_
        refine wl_nil ?_
        refine at_keep (Keep.cons 1 rfl (Keep.cons 5 rfl (Keep.cons 6 rfl (Keep.cons 8 rfl (Keep.cons 9 rfl (Keep.cons 10 rfl (Keep.cons 11 rfl (Keep.cons 52 rfl (Keep.cons 78 rfl Keep.nil))))))))) ?_
        refine at_false rfl ?_
        refine at_skip ?_
        refine at_seq ?_
        refine at_heap (fun _ hw => hw.front2.tail) ?_
        refine at_heap (fun _ hw => hw.front2.front7.front5.front7.front7.front6.front7) ?_
        refine at_region ?_
        refine wl_read rfl rfl rfl (yl_move rfl rfl) ?_
        refine wl_read rfl rfl rfl (yl_index rfl rfl rfl (Rd.of_sl (xs := ([1, 2, 3] : List UInt8)) 4 rfl) (show ([1, 2, 3] : List UInt8)[0]? = some 1 from rfl) rfl rfl Try.underlying27 (by kernel_rfl) rfl) ?_
        refine wl_store rfl rfl (es_at4 (es_storeSl (xs := ([1, 2, 3] : List UInt8)) (j := 0) (i := 0) 4 (9 : UInt8) rfl rfl rfl rfl (by kernel_rfl) rfl (show ([1, 2, 3] : List UInt8)[0]? = some 1 from rfl) rfl rfl)) ?_
        refine wl_nil ?_
        refine at_keep (Keep.cons 1 rfl (Keep.cons 5 rfl (Keep.cons 6 rfl (Keep.cons 8 rfl (Keep.cons 9 rfl (Keep.cons 10 rfl (Keep.cons 11 rfl (Keep.cons 52 rfl (Keep.cons 78 rfl Keep.nil))))))))) ?_
        refine at_seq ?_
        refine at_heap (fun _ hw => hw.front4.tail) ?_
        refine at_heap (fun _ hw => hw.front3.front3.front3.front3.front6.front6.front6) ?_
        refine at_heap (fun _ hw => hw.front1) ?_
        refine at_heap (fun _ hw => hw.poolIn) ?_
        refine at_heap (fun _ hw => hw.front1) ?_
        refine at_heap (fun _ hw => hw.poolIn) ?_
        have hsub : ∀ m, m ∈ s.pl → m ∈ t.pl := fun m hm => hJ3 m (hq4 m hm)
        have hs3 : SOk ⟨(s.p ++ [(⟨0, 1, A1, c1, [1, 2, 3]⟩ : Msg)]), (s.q ++ [(⟨0, 1, A2, c2, [1, 2, 3]⟩ : Msg)]), { s.k with sent := s.k.sent + 1 }, (Msg.mem (⟨0, 1, A2, c2, [1, 2, 3]⟩ : Msg) :: Msg.mem (⟨0, 1, A1, c1, [1, 2, 3]⟩ : Msg) :: t.pl)⟩ 21 := ((hs.pool hsub).add (⟨0, 1, A1, c1, [1, 2, 3]⟩ : Msg) (⟨0, 1, A2, c2, [1, 2, 3]⟩ : Msg) rfl (by simp) { s.k with sent := s.k.sent + 1 } (.inl rfl)).to (by omega)
        have ht3 : SOk ⟨t.p, t.q, t.k, (Msg.mem (⟨0, 1, A2, c2, [1, 2, 3]⟩ : Msg) :: Msg.mem (⟨0, 1, A1, c1, [1, 2, 3]⟩ : Msg) :: t.pl)⟩ 40 := (ht.pool (fun m hm => List.mem_cons_of_mem _ (List.mem_cons_of_mem _ hm))).to (by omega)
        have hl3 : (s.p ++ [(⟨0, 1, A1, c1, [1, 2, 3]⟩ : Msg)]).length = s.p.length + 1 := by simp
        have he2 : at_ (s.p ++ [(⟨0, 1, A1, c1, [1, 2, 3]⟩ : Msg)]) s.p.length = (⟨0, 1, A1, c1, [1, 2, 3]⟩ : Msg) := at_app_last _ _
        refine at_region ?_
        refine wl_read rfl rfl rfl (yl_move rfl rfl) ?_
        refine wl_read rfl rfl rfl (yl_move rfl rfl) ?_
        refine wl_heap (fun _ hw => hw.front1) ?_
        refine wl_call rfl rfl rfl (en_call rfl rfl) (len_fn (s.p ++ [(⟨0, 1, A1, c1, [1, 2, 3]⟩ : Msg)]) { s.k with sent := s.k.sent + 1 } g _ _) ?_
        rintro _ _ ⟨rfl, rfl⟩
        refine wl_read rfl rfl rfl (yl_sub (r := (s.p.length : Int)) rfl rfl rfl (by rw [hl3, w64 (by omega) (by omega)]; omega)) ?_
        refine wl_call rfl rfl rfl (en_call rfl rfl) (at_cl (s.p ++ [(⟨0, 1, A1, c1, [1, 2, 3]⟩ : Msg)]) { s.k with sent := s.k.sent + 1 } g s.p.length _ _ (okP hs3 (by omega) 0 rfl) (by omega)) ?_
        rintro _ _ ⟨A5, c5, rfl, rfl⟩
        rw [he2]
        refine wl_read rfl rfl rfl (yl_move rfl rfl) ?_
        refine wl_read rfl rfl rfl (yl_extract rfl rfl rfl) ?_
        refine wl_read rfl rfl rfl (yl_extract rfl rfl rfl) ?_
        refine wl_eff rfl rfl rfl (ef_alloc (cs := [.int .i64 0, .int .i64 0, .slice none 0 0]) (z := .agg #[.int .i64 0, .int .i64 0, .slice none 0 0]) rfl (by kernel_rfl) rfl) ?_
        rintro _ _ ⟨gy, rfl, rfl⟩
        refine wl_store rfl rfl (es_at0 (es_storeN 0 rfl rfl rfl rfl (by kernel_rfl) rfl rfl)) ?_
        refine wl_read rfl rfl rfl (yl_assign rfl rfl) ?_
        refine wl_nil ?_
        refine at_keep (Keep.cons 1 rfl (Keep.cons 5 rfl (Keep.cons 6 rfl (Keep.cons 8 rfl (Keep.cons 9 rfl (Keep.cons 10 rfl (Keep.cons 11 rfl (Keep.cons 12 rfl (Keep.cons 13 rfl (Keep.cons 52 rfl (Keep.cons 78 rfl Keep.nil))))))))))) ?_
        refine at_seq ?_
        refine at_seq ?_
        refine at_region ?_
        refine wl_read rfl rfl rfl (yl_move rfl rfl) ?_
        refine wl_read rfl rfl rfl (yl_move rfl rfl) ?_
        refine wl_read rfl rfl rfl (yl_fieldB rfl rfl Try.underlying33 rfl (by kernel_rfl) rfl) ?_
        refine wl_read rfl rfl rfl (yl_load rfl rfl Try.underlying27 rfl (CellAt.bk 0 rfl rfl)) ?_
        refine wl_read rfl rfl rfl (yl_len rfl rfl Try.underlying27) ?_
        refine wl_read rfl rfl rfl ((yp_gtr rfl rfl rfl).1 (by show (0 : Int) < ((3 : Nat) : Int); decide)) ?_
        refine wl_read rfl rfl rfl (yl_pickT rfl rfl rfl) ?_
        refine wl_nil ?_
        refine at_keep (Keep.cons 1 rfl (Keep.cons 5 rfl (Keep.cons 6 rfl (Keep.cons 8 rfl (Keep.cons 9 rfl (Keep.cons 10 rfl (Keep.cons 11 rfl (Keep.cons 12 rfl (Keep.cons 13 rfl (Keep.cons 52 rfl (Keep.cons 78 rfl (Keep.cons 95 rfl Keep.nil)))))))))))) ?_
        refine at_true rfl ?_
        refine at_region ?_
        refine wl_read rfl rfl rfl (yl_fieldB rfl rfl Try.underlying33 rfl (by kernel_rfl) rfl) ?_
        refine wl_read rfl rfl rfl (yl_load rfl rfl Try.underlying27 rfl (CellAt.bk 0 rfl rfl)) ?_
        refine wl_read rfl rfl rfl (yl_index rfl rfl rfl (Rd.of_sl (xs := ([1, 2, 3] : List UInt8)) 1 rfl) (show ([1, 2, 3] : List UInt8)[0]? = some 1 from rfl) rfl rfl Try.underlying27 (by kernel_rfl) rfl) ?_
        refine wl_store rfl rfl (es_at1 (es_storeSl (xs := ([1, 2, 3] : List UInt8)) (j := 0) (i := 0) 1 (77 : UInt8) rfl rfl rfl rfl (by kernel_rfl) rfl (show ([1, 2, 3] : List UInt8)[0]? = some 1 from rfl) rfl rfl)) ?_
        refine wl_nil ?_
        refine at_keep (Keep.cons 1 rfl (Keep.cons 5 rfl (Keep.cons 6 rfl (Keep.cons 8 rfl (Keep.cons 9 rfl (Keep.cons 10 rfl (Keep.cons 11 rfl (Keep.cons 12 rfl (Keep.cons 13 rfl (Keep.cons 52 rfl (Keep.cons 78 rfl (Keep.cons 95 rfl Keep.nil)))))))))))) ?_
        refine at_seq ?_
        refine at_heap (fun _ hw => hw.tail) ?_
        refine at_heap (fun _ hw => hw.tail) ?_
        refine at_heap (fun _ hw => hw.front1.front2.front2) ?_
        refine at_region ?_
        refine wl_read rfl rfl rfl (yl_move rfl rfl) ?_
        refine wl_read rfl rfl rfl (yl_move rfl rfl) ?_
        refine wl_call rfl rfl rfl (en_call rfl rfl) (same_fn ⟨(s.p ++ [(⟨0, 1, A1, c1, [1, 2, 3]⟩ : Msg)]), (s.q ++ [(⟨0, 1, A2, c2, [1, 2, 3]⟩ : Msg)]), { s.k with sent := s.k.sent + 1 }, (Msg.mem (⟨0, 1, A2, c2, [1, 2, 3]⟩ : Msg) :: Msg.mem (⟨0, 1, A1, c1, [1, 2, 3]⟩ : Msg) :: t.pl)⟩ 21 g r _ _ hs3 (by omega)) ?_
        rintro _ _ ⟨rfl, rfl⟩
        refine wl_read rfl rfl rfl (yl_move rfl rfl) ?_
        refine wl_read rfl rfl rfl (yl_move rfl rfl) ?_
        refine wl_read rfl rfl rfl (yl_move rfl rfl) ?_
        refine wl_heap (fun _ hw => hw.front2.front4.front4) ?_
        refine wl_call rfl rfl rfl (en_call rfl rfl) (same_fn ⟨t.p, t.q, t.k, (Msg.mem (⟨0, 1, A2, c2, [1, 2, 3]⟩ : Msg) :: Msg.mem (⟨0, 1, A1, c1, [1, 2, 3]⟩ : Msg) :: t.pl)⟩ 40 g2 r2 _ _ ht3 (by omega)) ?_
        rintro _ _ ⟨rfl, rfl⟩
        refine wl_read rfl rfl rfl (yl_pickT rfl rfl rfl) ?_
        refine wl_read rfl rfl rfl (yl_assign rfl rfl) ?_
        refine wl_nil ?_
        refine at_keep (Keep.cons 1 rfl (Keep.cons 4 rfl (Keep.cons 5 rfl (Keep.cons 6 rfl (Keep.cons 8 rfl (Keep.cons 9 rfl (Keep.cons 10 rfl (Keep.cons 11 rfl (Keep.cons 12 rfl (Keep.cons 13 rfl (Keep.cons 52 rfl (Keep.cons 78 rfl (Keep.cons 95 rfl Keep.nil))))))))))))) ?_
        refine at_retH (fun _ hw => hw.tail.tail.tail.tail.tail) Try.func9 (res1 rfl rfl) ?_
        exact ⟨rfl, rfl⟩
    · intro h12_3
      refine wl_read rfl rfl rfl (yl_move rfl rfl) ?_
      refine wl_skip rfl rfl rfl ?_
      refine wl_skip rfl rfl rfl ?_
      refine wl_read rfl rfl rfl (yl_pickF rfl rfl rfl) ?_
      refine wl_nil ?_
      refine at_keep (Keep.cons 1 rfl (Keep.cons 5 rfl (Keep.cons 6 rfl (Keep.cons 8 rfl (Keep.cons 9 rfl (Keep.cons 10 rfl (Keep.cons 52 rfl Keep.nil))))))) ?_
      refine at_false rfl ?_
      refine at_exit rfl ?_
      refine at_seq ?_
      refine at_region ?_
      refine wl_eff rfl rfl rfl (ef_buildSlice (e := 5) ([1, 2, 3] : List UInt8) rfl rfl (fun _ => by kernel_rfl) rfl rfl) ?_
      rintro _ _ ⟨T16_0, rfl, rfl⟩
      refine wl_read rfl rfl rfl (yl_assign rfl rfl) ?_
      refine wl_nil ?_
      refine at_keep (Keep.cons 1 rfl (Keep.cons 5 rfl (Keep.cons 6 rfl (Keep.cons 8 rfl (Keep.cons 9 rfl (Keep.cons 10 rfl (Keep.cons 11 rfl (Keep.cons 52 rfl Keep.nil)))))))) ?_
      refine at_seq ?_
      refine at_seq ?_
      refine at_region ?_
      refine wl_read rfl rfl rfl (yl_move rfl rfl) ?_
      refine wl_heap (fun _ hw => hw.front4) ?_
      refine wl_call rfl rfl rfl (en_call rfl rfl) (len_fn s.p s.k g _ _) ?_
      rintro _ _ ⟨rfl, rfl⟩
      refine wl_read rfl rfl rfl ((yp_lss rfl rfl rfl).1 (by omega)) ?_
      refine wl_read rfl rfl rfl (yl_move rfl rfl) ?_
      refine wl_read rfl rfl rfl (yl_move rfl rfl) ?_
      refine wl_read rfl rfl rfl (yl_move rfl rfl) ?_
      refine wl_call rfl rfl rfl (en_call rfl rfl) (send_fn s.p s.k g _ _ 0 1 ([1, 2, 3] : List UInt8) _ _ o1 (by omega) (by omega) (Rd.of_sl 0 rfl)) ?_
      rintro _ _ ⟨A1, c1, rfl, rfl⟩
      refine wl_read rfl rfl rfl ((yp_neq rfl rfl rfl).2 (by simp)) ?_
      refine wl_read rfl rfl rfl (yl_move rfl rfl) ?_
      refine wl_read rfl rfl rfl (yl_move rfl rfl) ?_
      refine wl_eff rfl rfl rfl (ef_buildSlice (e := 5) ([1, 2, 3] : List UInt8) rfl rfl (fun _ => by kernel_rfl) rfl rfl) ?_
      rintro _ _ ⟨T17_10, rfl, rfl⟩
      refine wl_heap (fun _ hw => hw.front7) ?_
      refine wl_call rfl rfl rfl (en_call rfl rfl) (rsend_fn s.q s.k r _ _ 0 1 ([1, 2, 3] : List UInt8) _ _ o1 (by omega) (by omega) (Rd.of_sl 0 rfl)) ?_
      rintro _ _ ⟨A2, c2, rfl, rfl⟩
      refine wl_read rfl rfl rfl ((yp_neq rfl rfl rfl).2 (by simp)) ?_
      refine wl_read rfl rfl rfl (yl_pickF rfl rfl rfl) ?_
      refine wl_read rfl rfl rfl (yl_pickT rfl rfl rfl) ?_
      refine wl_nil ?_
      refine at_keep (Keep.cons 1 rfl (Keep.cons 5 rfl (Keep.cons 6 rfl (Keep.cons 8 rfl (Keep.cons 9 rfl (Keep.cons 10 rfl (Keep.cons 11 rfl (Keep.cons 52 rfl (Keep.cons 78 rfl Keep.nil))))))))) ?_
      refine at_false rfl ?_
      refine at_skip ?_
      refine at_seq ?_
      refine at_heap (fun _ hw => hw.front2.tail) ?_
      refine at_heap (fun _ hw => hw.front2.front7.front5.front7.front7.front6.front7) ?_
      refine at_region ?_
      refine wl_read rfl rfl rfl (yl_move rfl rfl) ?_
      refine wl_read rfl rfl rfl (yl_index rfl rfl rfl (Rd.of_sl (xs := ([1, 2, 3] : List UInt8)) 4 rfl) (show ([1, 2, 3] : List UInt8)[0]? = some 1 from rfl) rfl rfl Try.underlying27 (by kernel_rfl) rfl) ?_
      refine wl_store rfl rfl (es_at4 (es_storeSl (xs := ([1, 2, 3] : List UInt8)) (j := 0) (i := 0) 4 (9 : UInt8) rfl rfl rfl rfl (by kernel_rfl) rfl (show ([1, 2, 3] : List UInt8)[0]? = some 1 from rfl) rfl rfl)) ?_
      refine wl_nil ?_
      refine at_keep (Keep.cons 1 rfl (Keep.cons 5 rfl (Keep.cons 6 rfl (Keep.cons 8 rfl (Keep.cons 9 rfl (Keep.cons 10 rfl (Keep.cons 11 rfl (Keep.cons 52 rfl (Keep.cons 78 rfl Keep.nil))))))))) ?_
      refine at_seq ?_
      refine at_heap (fun _ hw => hw.front4.tail) ?_
      refine at_heap (fun _ hw => hw.front3.front3.front3.front3.front6.front6.front6) ?_
      refine at_heap (fun _ hw => hw.front1) ?_
      refine at_heap (fun _ hw => hw.poolIn) ?_
      refine at_heap (fun _ hw => hw.front1) ?_
      refine at_heap (fun _ hw => hw.poolIn) ?_
      have hsub : ∀ m, m ∈ s.pl → m ∈ t.pl := fun m hm => hJ3 m (hq4 m hm)
      have hs3 : SOk ⟨(s.p ++ [(⟨0, 1, A1, c1, [1, 2, 3]⟩ : Msg)]), (s.q ++ [(⟨0, 1, A2, c2, [1, 2, 3]⟩ : Msg)]), { s.k with sent := s.k.sent + 1 }, (Msg.mem (⟨0, 1, A2, c2, [1, 2, 3]⟩ : Msg) :: Msg.mem (⟨0, 1, A1, c1, [1, 2, 3]⟩ : Msg) :: t.pl)⟩ 21 := ((hs.pool hsub).add (⟨0, 1, A1, c1, [1, 2, 3]⟩ : Msg) (⟨0, 1, A2, c2, [1, 2, 3]⟩ : Msg) rfl (by simp) { s.k with sent := s.k.sent + 1 } (.inl rfl)).to (by omega)
      have ht3 : SOk ⟨t.p, t.q, t.k, (Msg.mem (⟨0, 1, A2, c2, [1, 2, 3]⟩ : Msg) :: Msg.mem (⟨0, 1, A1, c1, [1, 2, 3]⟩ : Msg) :: t.pl)⟩ 40 := (ht.pool (fun m hm => List.mem_cons_of_mem _ (List.mem_cons_of_mem _ hm))).to (by omega)
      have hl3 : (s.p ++ [(⟨0, 1, A1, c1, [1, 2, 3]⟩ : Msg)]).length = s.p.length + 1 := by simp
      have he2 : at_ (s.p ++ [(⟨0, 1, A1, c1, [1, 2, 3]⟩ : Msg)]) s.p.length = (⟨0, 1, A1, c1, [1, 2, 3]⟩ : Msg) := at_app_last _ _
      refine at_region ?_
      refine wl_read rfl rfl rfl (yl_move rfl rfl) ?_
      refine wl_read rfl rfl rfl (yl_move rfl rfl) ?_
      refine wl_heap (fun _ hw => hw.front1) ?_
      refine wl_call rfl rfl rfl (en_call rfl rfl) (len_fn (s.p ++ [(⟨0, 1, A1, c1, [1, 2, 3]⟩ : Msg)]) { s.k with sent := s.k.sent + 1 } g _ _) ?_
      rintro _ _ ⟨rfl, rfl⟩
      refine wl_read rfl rfl rfl (yl_sub (r := (s.p.length : Int)) rfl rfl rfl (by rw [hl3, w64 (by omega) (by omega)]; omega)) ?_
      refine wl_call rfl rfl rfl (en_call rfl rfl) (at_cl (s.p ++ [(⟨0, 1, A1, c1, [1, 2, 3]⟩ : Msg)]) { s.k with sent := s.k.sent + 1 } g s.p.length _ _ (okP hs3 (by omega) 0 rfl) (by omega)) ?_
      rintro _ _ ⟨A5, c5, rfl, rfl⟩
      rw [he2]
      refine wl_read rfl rfl rfl (yl_move rfl rfl) ?_
      refine wl_read rfl rfl rfl (yl_extract rfl rfl rfl) ?_
      refine wl_read rfl rfl rfl (yl_extract rfl rfl rfl) ?_
      refine wl_eff rfl rfl rfl (ef_alloc (cs := [.int .i64 0, .int .i64 0, .slice none 0 0]) (z := .agg #[.int .i64 0, .int .i64 0, .slice none 0 0]) rfl (by kernel_rfl) rfl) ?_
      rintro _ _ ⟨gy, rfl, rfl⟩
      refine wl_store rfl rfl (es_at0 (es_storeN 0 rfl rfl rfl rfl (by kernel_rfl) rfl rfl)) ?_
      refine wl_read rfl rfl rfl (yl_assign rfl rfl) ?_
      refine wl_nil ?_
      refine at_keep (Keep.cons 1 rfl (Keep.cons 5 rfl (Keep.cons 6 rfl (Keep.cons 8 rfl (Keep.cons 9 rfl (Keep.cons 10 rfl (Keep.cons 11 rfl (Keep.cons 12 rfl (Keep.cons 13 rfl (Keep.cons 52 rfl (Keep.cons 78 rfl Keep.nil))))))))))) ?_
      refine at_seq ?_
      refine at_seq ?_
      refine at_region ?_
      refine wl_read rfl rfl rfl (yl_move rfl rfl) ?_
      refine wl_read rfl rfl rfl (yl_move rfl rfl) ?_
      refine wl_read rfl rfl rfl (yl_fieldB rfl rfl Try.underlying33 rfl (by kernel_rfl) rfl) ?_
      refine wl_read rfl rfl rfl (yl_load rfl rfl Try.underlying27 rfl (CellAt.bk 0 rfl rfl)) ?_
      refine wl_read rfl rfl rfl (yl_len rfl rfl Try.underlying27) ?_
      refine wl_read rfl rfl rfl ((yp_gtr rfl rfl rfl).1 (by show (0 : Int) < ((3 : Nat) : Int); decide)) ?_
      refine wl_read rfl rfl rfl (yl_pickT rfl rfl rfl) ?_
      refine wl_nil ?_
      refine at_keep (Keep.cons 1 rfl (Keep.cons 5 rfl (Keep.cons 6 rfl (Keep.cons 8 rfl (Keep.cons 9 rfl (Keep.cons 10 rfl (Keep.cons 11 rfl (Keep.cons 12 rfl (Keep.cons 13 rfl (Keep.cons 52 rfl (Keep.cons 78 rfl (Keep.cons 95 rfl Keep.nil)))))))))))) ?_
      refine at_true rfl ?_
      refine at_region ?_
      refine wl_read rfl rfl rfl (yl_fieldB rfl rfl Try.underlying33 rfl (by kernel_rfl) rfl) ?_
      refine wl_read rfl rfl rfl (yl_load rfl rfl Try.underlying27 rfl (CellAt.bk 0 rfl rfl)) ?_
      refine wl_read rfl rfl rfl (yl_index rfl rfl rfl (Rd.of_sl (xs := ([1, 2, 3] : List UInt8)) 1 rfl) (show ([1, 2, 3] : List UInt8)[0]? = some 1 from rfl) rfl rfl Try.underlying27 (by kernel_rfl) rfl) ?_
      refine wl_store rfl rfl (es_at1 (es_storeSl (xs := ([1, 2, 3] : List UInt8)) (j := 0) (i := 0) 1 (77 : UInt8) rfl rfl rfl rfl (by kernel_rfl) rfl (show ([1, 2, 3] : List UInt8)[0]? = some 1 from rfl) rfl rfl)) ?_
      refine wl_nil ?_
      refine at_keep (Keep.cons 1 rfl (Keep.cons 5 rfl (Keep.cons 6 rfl (Keep.cons 8 rfl (Keep.cons 9 rfl (Keep.cons 10 rfl (Keep.cons 11 rfl (Keep.cons 12 rfl (Keep.cons 13 rfl (Keep.cons 52 rfl (Keep.cons 78 rfl (Keep.cons 95 rfl Keep.nil)))))))))))) ?_
      refine at_seq ?_
      refine at_heap (fun _ hw => hw.tail) ?_
      refine at_heap (fun _ hw => hw.tail) ?_
      refine at_heap (fun _ hw => hw.front1.front2.front2) ?_
      refine at_region ?_
      refine wl_read rfl rfl rfl (yl_move rfl rfl) ?_
      refine wl_read rfl rfl rfl (yl_move rfl rfl) ?_
      refine wl_call rfl rfl rfl (en_call rfl rfl) (same_fn ⟨(s.p ++ [(⟨0, 1, A1, c1, [1, 2, 3]⟩ : Msg)]), (s.q ++ [(⟨0, 1, A2, c2, [1, 2, 3]⟩ : Msg)]), { s.k with sent := s.k.sent + 1 }, (Msg.mem (⟨0, 1, A2, c2, [1, 2, 3]⟩ : Msg) :: Msg.mem (⟨0, 1, A1, c1, [1, 2, 3]⟩ : Msg) :: t.pl)⟩ 21 g r _ _ hs3 (by omega)) ?_
      rintro _ _ ⟨rfl, rfl⟩
      refine wl_read rfl rfl rfl (yl_move rfl rfl) ?_
      refine wl_read rfl rfl rfl (yl_move rfl rfl) ?_
      refine wl_read rfl rfl rfl (yl_move rfl rfl) ?_
      refine wl_heap (fun _ hw => hw.front2.front4.front4) ?_
      refine wl_call rfl rfl rfl (en_call rfl rfl) (same_fn ⟨t.p, t.q, t.k, (Msg.mem (⟨0, 1, A2, c2, [1, 2, 3]⟩ : Msg) :: Msg.mem (⟨0, 1, A1, c1, [1, 2, 3]⟩ : Msg) :: t.pl)⟩ 40 g2 r2 _ _ ht3 (by omega)) ?_
      rintro _ _ ⟨rfl, rfl⟩
      refine wl_read rfl rfl rfl (yl_pickT rfl rfl rfl) ?_
      refine wl_read rfl rfl rfl (yl_assign rfl rfl) ?_
      refine wl_nil ?_
      refine at_keep (Keep.cons 1 rfl (Keep.cons 4 rfl (Keep.cons 5 rfl (Keep.cons 6 rfl (Keep.cons 8 rfl (Keep.cons 9 rfl (Keep.cons 10 rfl (Keep.cons 11 rfl (Keep.cons 12 rfl (Keep.cons 13 rfl (Keep.cons 52 rfl (Keep.cons 78 rfl (Keep.cons 95 rfl Keep.nil))))))))))))) ?_
      refine at_retH (fun _ hw => hw.tail.tail.tail.tail.tail) Try.func9 (res1 rfl rfl) ?_
      exact ⟨rfl, rfl⟩
end Go.Proofs.Ytcpcgllkdpfacaa

/- Walks of the laws on order and on copies. -/
import Derived.Test.YtcpcgllkdpfacaaS
namespace Go.Proofs.Ytcpcgllkdpfacaa
open Go

structure S4 where
  A : Option Addr
  c : Nat
  ws : List (Mem UInt8)
  ms : List Msg
  pl : List (Mem UInt8)
  n : Int
structure I4 (l : List (Mem UInt8)) (j : Nat) (s : S4) : Prop where
  j1 : j ≤ l.length
  j2 : j ≤ 30
  len : s.ms.length = s.ws.length
  le : s.ws.length ≤ j
  eq : ∀ i, i < s.ws.length → (at_ s.ms i).bs = (at_ s.ws i).xs ∧ (at_ s.ms i).to_ = 5
  inp : ∀ m, m ∈ s.ms → m.mem ∈ s.pl
  sz : ∀ m, m ∈ s.ms → m.bs.length ≤ 1000
  ws : ∀ m, m ∈ s.ws → m ∈ l
  n : s.n = s.ms.length
theorem I4.skip {l : List (Mem UInt8)} {j : Nat} {s : S4} (h : I4 l j s) (hj : j < l.length) (hj2 : j < 30) : I4 l (j + 1) s := ⟨by omega, by omega, h.len, by have := h.le; omega, h.eq, h.inp, h.sz, h.ws, h.n⟩
theorem I4.add {l : List (Mem UInt8)} {j : Nat} {s : S4} (h : I4 l j s) (hj : j < l.length) (hj2 : j < 30) (A : Option Addr) (c : Nat) (f : Int) (A1 : Option Addr) (c1 : Nat) (hz : (at_ l j).xs.length ≤ 1000) :
    I4 l (j + 1) ⟨A, c, s.ws ++ [at_ l j], s.ms ++ [⟨f, 5, A1, c1, (at_ l j).xs⟩], ⟨A1, c1, (at_ l j).xs⟩ :: s.pl, s.n + 1⟩ := by
  have hlen := h.len
  have hn := h.n
  refine ⟨by omega, by omega, by simp [hlen], by have := h.le; simp; omega, fun i hi => ?_, in_add h.inp rfl, sz_add h.sz hz, fun m hm => ?_, by simp [hn]⟩
  · simp only [List.length_append, List.length_singleton] at hi
    rcases Nat.lt_or_ge i s.ws.length with h1 | h1
    · simp only [at_app_left h1, at_app_left (show i < s.ms.length by omega)]
      exact h.eq i h1
    · obtain rfl : i = s.ws.length := by omega
      have e1 : at_ (s.ws ++ [at_ l j]) s.ws.length = at_ l j := at_app_last _ _
      have e2 : at_ (s.ms ++ [(⟨f, 5, A1, c1, (at_ l j).xs⟩ : Msg)]) s.ws.length = ⟨f, 5, A1, c1, (at_ l j).xs⟩ := by rw [← hlen]; exact at_app_last _ _
      simp only [e1, e2, and_self]
  · rcases List.mem_append.1 hm with hm | hm
    · exact h.ws m hm
    · simp at hm; subst hm; exact at_in hj
theorem info27 : (Try.prog.info? 27).map (fun i => (i.zero, i.size, i.bytes)) = some (some (.slice none 0 0), Enc.size (Mem UInt8), 24) := by kernel_rfl
theorem send_alt (ms : List Msg) (k : Cts) (g : Nat) (b : World) (H : List Asr) (f t : Int) (bs : List UInt8) (A0 : Option Addr) (c0 : Nat) (hm : ms.length < 500) (hk : 0 ≤ k.sent ∧ k.sent ≤ 1000000) (hR : Rd H A0 bs) :
    Fn Try.prog 13 [.pointer (some ⟨g, 0, none⟩), .int .i64 f, .int .i64 t, .slice A0 bs.length c0] b (Chn 58 g ms k :: H)
    (fun v H' => (∃ A' c', okS f t bs ∧ v = .int .i64 0 ∧ H' = Sl A' c' 5 bs :: Chn 58 g (ms ++ [⟨f, t, A', c', bs⟩]) { k with sent := k.sent + 1 } :: H) ∨ (¬ okS f t bs ∧ v = .int .i64 1 ∧ Chn 58 g ms k :: H = H')) := by
  rcases Classical.em (okS f t bs) with hs | hs
  · exact (send_fn ms k g b H f t bs A0 c0 hs hm hk hR).mono (by rintro v H' ⟨A', c', h1, h2⟩; exact .inl ⟨A', c', hs, h1, h2⟩)
  · exact (send_bad ms k g b H f t bs A0 c0 hs).mono (by rintro v H' ⟨h1, h2⟩; exact .inr ⟨hs, h1, h2⟩)
theorem deliver0 (ms : List Msg) (i : Nat) (k : Cts) (g : Nat) (b : World) (H : List Asr) (hok : Ok H (ms.drop i)) (hi : i < ms.length) (hk : 0 ≤ k.del ∧ k.del ≤ 1000000) : Fn Try.prog 16 [.pointer (some ⟨g, 0, none⟩), .int .i64 0] b (Chn 58 g (ms.drop i) k :: H)
    (fun v H' => ∃ A' c', v = .tuple #[.agg (Enc.cells ((at_ ms i).cp A' c')).toArray, .bool true] ∧ H' = Sl A' c' 5 (at_ ms i).bs :: Chn 58 g (ms.drop (i + 1)) { k with del := k.del + 1 } :: H) := by
  have hl : (ms.drop i).length = ms.length - i := List.length_drop
  have h := deliver_fn (ms.drop i) k g b H 0 hok (by omega) hk
  have e1 : at_ (ms.drop i) 0 = at_ ms i := by
    have h1 := at_some (show 0 < (ms.drop i).length by omega)
    rw [List.getElem?_drop, Nat.add_zero, at_some hi] at h1
    exact (Option.some.inj h1).symm
  have e2 : (ms.drop i).eraseIdx 0 = ms.drop (i + 1) := by rw [List.eraseIdx_zero, List.tail_drop]
  rwa [e1, e2] at h

theorem law4 (l : List (Mem UInt8)) (A : Option Addr) (c : Nat) (b : World) (H : List Asr) (hR : Rd H A l) (hE : ∀ m, m ∈ l → Rd H m.A m.xs) : Fn Try.prog 4 [.slice A l.length c] b H (fun v H' => v = .bool true ∧ H = H') := by
  refine fn_of_at (by kernel_rfl) Try.func4 rfl Try.ntmps4 rfl rfl ?_
  refine at_seq ?_
  refine at_region ?_
  refine wl_read rfl rfl rfl (yl_assign rfl rfl) ?_
  refine wl_nil ?_
  refine at_keep (Keep.cons 0 rfl (Keep.cons 2 rfl Keep.nil)) ?_
  refine at_seq ?_
  refine at_region ?_
  refine wl_call rfl rfl rfl (en_call rfl rfl) (new_fn _ _) ?_
  rintro _ _ ⟨g, rfl, rfl⟩
  refine wl_read rfl rfl rfl (yl_assign rfl rfl) ?_
  refine wl_nil ?_
  refine at_keep (Keep.cons 0 rfl (Keep.cons 2 rfl (Keep.cons 3 rfl Keep.nil))) ?_
  refine at_seq ?_
  refine at_region ?_
  refine wl_read rfl rfl rfl (yl_assign rfl rfl) ?_
  refine wl_nil ?_
  refine at_keep (Keep.cons 0 rfl (Keep.cons 2 rfl (Keep.cons 3 rfl (Keep.cons 4 rfl Keep.nil)))) ?_
  refine at_seq ?_
  refine at_seq ?_
  refine at_region ?_
  refine wl_read rfl rfl rfl (yl_assign rfl rfl) ?_
  refine wl_nil ?_
  refine at_keep (Keep.cons 0 rfl (Keep.cons 2 rfl (Keep.cons 3 rfl (Keep.cons 4 rfl (Keep.cons 5 rfl Keep.nil))))) ?_
  refine at_block ?_
  refine at_keep (L' := (fun (j : Nat) (s : S4) => [(0, .slice A l.length c), (3, .pointer (some ⟨g, 0, none⟩)), (4, .slice s.A s.ws.length s.c), (5, .int .i64 (j : Int))]) 0 ⟨none, 0, [], [], [], 0⟩) (Keep.consEq 0 rfl rfl (Keep.consEq 3 rfl rfl (Keep.consEq 4 rfl rfl (Keep.consEq 5 rfl rfl Keep.nil)))) ?_
  refine at_heap (fun _ hw => ((hw.poolNil (α := UInt8)).nilSl (α := Mem UInt8) 27).front2) ?_
  refine at_loop2 (fun (j : Nat) (s : S4) => I4 l j s) (fun (j : Nat) (s : S4) => [(0, .slice A l.length c), (3, .pointer (some ⟨g, 0, none⟩)), (4, .slice s.A s.ws.length s.c), (5, .int .i64 (j : Int))]) (fun (j : Nat) (s : S4) => Chn 58 g s.ms ⟨s.n, 0, 0, 0⟩ :: Sl s.A s.c 27 s.ws :: Pool s.pl :: H) (fun (j : Nat) (s : S4) => l.length - j) 0 ⟨none, 0, [], [], [], 0⟩ ⟨by omega, by omega, rfl, by simp, by simp, by simp, by simp, by simp, rfl⟩ ?_
  intro j s hI ih
  have hI0 := hI
  have hi2 := hI.j2
  have hil := hI.len
  have hile := hI.le
  have hin := hI.n
  refine at_seq ?_
  refine at_seq ?_
  refine at_region ?_
  refine wl_read rfl rfl rfl (yl_move rfl rfl) ?_
  refine wl_read rfl rfl rfl (yl_move rfl rfl) ?_
  refine wl_read rfl rfl rfl (yl_len rfl rfl Try.underlying31) ?_
  refine wl_split rfl rfl rfl (yp_lss rfl rfl rfl) ?_ ?_
  · intro h4_3
    refine wl_read rfl rfl rfl (yl_move rfl rfl) ?_
    refine wl_read rfl rfl rfl (yl_move rfl rfl) ?_
    refine wl_split rfl rfl rfl (yp_lss rfl rfl rfl) ?_ ?_
    · intro h4_6
      refine wl_read rfl rfl rfl (yl_pickT rfl rfl rfl) ?_
      refine wl_nil ?_
      refine at_keep (Keep.cons 0 rfl (Keep.cons 3 rfl (Keep.cons 4 rfl (Keep.cons 5 rfl (Keep.cons 19 rfl Keep.nil))))) ?_
      refine at_true rfl ?_
      refine at_skip ?_
      refine at_seq ?_
      refine at_block ?_
      refine at_seq ?_
      have hj1 : j < l.length := by omega
      have hj30 : j < 30 := by omega
      refine at_region ?_
      refine wl_read rfl rfl rfl (yl_move rfl rfl) ?_
      refine wl_read rfl rfl rfl (yl_move rfl rfl) ?_
      refine wl_read rfl rfl rfl (yl_rem rfl rfl rfl (by decide) rfl) ?_
      refine wl_read rfl rfl rfl (yl_move rfl rfl) ?_
      refine wl_read rfl rfl rfl (yl_move rfl rfl) ?_
      refine wl_read rfl rfl rfl (yl_index rfl rfl rfl (((hR.cons _).cons _).cons _) (at_some hj1) rfl rfl Try.underlying31 (by kernel_rfl) rfl) ?_
      refine wl_read rfl rfl rfl (yl_load rfl rfl Try.underlying27 rfl ((((hR.cons _).cons _).cons _).cell2 (at_some hj1) (i := 0) rfl)) ?_
      refine wl_call rfl rfl rfl (en_call rfl rfl) (send_alt s.ms ⟨s.n, 0, 0, 0⟩ g _ _ ((j : Int).tmod 5) 5 (at_ l j).xs _ _ (by omega) (by simp; omega) (((hE _ (at_in hj1)).cons _).cons _)) ?_
      rintro _ _ (⟨A1, c1, hok, rfl, rfl⟩ | ⟨hok, rfl, rfl⟩)
      ·
        refine wl_read rfl rfl rfl ((yp_eql rfl rfl rfl).1 rfl) ?_
        refine wl_nil ?_
        refine at_keep (Keep.cons 0 rfl (Keep.cons 3 rfl (Keep.cons 4 rfl (Keep.cons 5 rfl (Keep.cons 19 rfl (Keep.cons 30 rfl Keep.nil)))))) ?_
        refine at_true rfl ?_
        refine at_region ?_
        refine wl_read rfl rfl rfl (yl_move rfl rfl) ?_
        refine wl_read rfl rfl rfl (yl_move rfl rfl) ?_
        refine wl_read rfl rfl rfl (yl_move rfl rfl) ?_
        refine wl_read rfl rfl rfl (yl_index rfl rfl rfl ((((hR.cons _).cons _).cons _).cons _) (at_some hj1) rfl rfl Try.underlying31 (by kernel_rfl) rfl) ?_
        refine wl_read rfl rfl rfl (yl_load rfl rfl Try.underlying27 rfl (((((hR.cons _).cons _).cons _).cons _).cell2 (at_some hj1) (i := 0) rfl)) ?_
        refine wl_eff rfl rfl rfl (ef_buildSlice (e := 27) [at_ l j] rfl rfl (fun _ => by kernel_rfl) rfl rfl) ?_
        rintro _ _ ⟨T7_5, rfl, rfl⟩
        refine wl_eff rfl rfl rfl (ef_append (ys := [at_ l j]) 3 rfl rfl rfl rfl (Rd.of_sl 0 rfl) Try.underlying31 info27 rfl rfl (by simp only [List.length_singleton, maxLen]; omega) (by simp only [List.length_singleton]; omega)) ?_
        rintro _ _ ⟨A3, c3, rfl, hH⟩
        simp only [List.set_cons_succ, List.set_cons_zero] at hH; subst hH
        refine wl_read rfl rfl rfl (yl_assign rfl rfl) ?_
        refine wl_nil ?_
        refine at_keep (Keep.cons 0 rfl (Keep.cons 3 rfl (Keep.cons 4 rfl (Keep.cons 5 rfl (Keep.cons 19 rfl (Keep.cons 30 rfl Keep.nil)))))) ?_
        refine at_inBlock ?_
        refine at_heap (fun _ hw => hw.tail) ?_
        refine at_heap (fun _ hw => hw.front3.front1) ?_
        refine at_heap (fun _ hw => hw.poolIn) ?_
        refine at_heap (fun _ hw => hw.front2.front2) ?_
        refine at_region ?_
        refine wl_read rfl rfl rfl (yl_move rfl rfl) ?_
        refine wl_read rfl rfl rfl (yl_add rfl rfl rfl (w64 (by omega) (by omega))) ?_
        refine wl_read rfl rfl rfl (yl_assign rfl rfl) ?_
        refine wl_nil ?_
        refine at_keep (Keep.cons 0 rfl (Keep.cons 3 rfl (Keep.cons 4 rfl (Keep.cons 5 rfl (Keep.cons 19 rfl (Keep.cons 30 rfl Keep.nil)))))) ?_
        exact at_keep (L' := (fun (j : Nat) (s : S4) => [(0, .slice A l.length c), (3, .pointer (some ⟨g, 0, none⟩)), (4, .slice s.A s.ws.length s.c), (5, .int .i64 (j : Int))]) (j + 1) ⟨A3, c3, s.ws ++ [at_ l j], s.ms ++ [⟨(j : Int).tmod 5, 5, A1, c1, (at_ l j).xs⟩], ⟨A1, c1, (at_ l j).xs⟩ :: s.pl, s.n + 1⟩) (Keep.consEq 0 rfl rfl (Keep.consEq 3 rfl rfl (Keep.consEq 4 rfl rfl (Keep.consEq 5 rfl rfl Keep.nil)))) (ih (j + 1) ⟨A3, c3, s.ws ++ [at_ l j], s.ms ++ [⟨(j : Int).tmod 5, 5, A1, c1, (at_ l j).xs⟩], ⟨A1, c1, (at_ l j).xs⟩ :: s.pl, s.n + 1⟩ (hI.add hj1 hj30 A3 c3 _ A1 c1 hok.2.2.2.2) (by omega))
      ·
        refine wl_read rfl rfl rfl ((yp_eql rfl rfl rfl).2 (by decide)) ?_
        refine wl_nil ?_
        refine at_keep (Keep.cons 0 rfl (Keep.cons 3 rfl (Keep.cons 4 rfl (Keep.cons 5 rfl (Keep.cons 19 rfl (Keep.cons 30 rfl Keep.nil)))))) ?_
        refine at_false rfl ?_
        refine at_skip ?_
        refine at_inBlock ?_
        refine at_heap (fun _ hw => hw.front2.front2.front2) ?_
        refine at_region ?_
        refine wl_read rfl rfl rfl (yl_move rfl rfl) ?_
        refine wl_read rfl rfl rfl (yl_add rfl rfl rfl (w64 (by omega) (by omega))) ?_
        refine wl_read rfl rfl rfl (yl_assign rfl rfl) ?_
        refine wl_nil ?_
        refine at_keep (Keep.cons 0 rfl (Keep.cons 3 rfl (Keep.cons 4 rfl (Keep.cons 5 rfl (Keep.cons 19 rfl (Keep.cons 30 rfl Keep.nil)))))) ?_
        exact at_keep (L' := (fun (j : Nat) (s : S4) => [(0, .slice A l.length c), (3, .pointer (some ⟨g, 0, none⟩)), (4, .slice s.A s.ws.length s.c), (5, .int .i64 (j : Int))]) (j + 1) s) (Keep.consEq 0 rfl rfl (Keep.consEq 3 rfl rfl (Keep.consEq 4 rfl rfl (Keep.consEq 5 rfl rfl Keep.nil)))) (ih (j + 1) s (hI.skip hj1 hj30) (by omega))
    · intro h4_6
      refine wl_read rfl rfl rfl (yl_pickT rfl rfl rfl) ?_
      refine wl_nil ?_
      refine at_keep (Keep.cons 0 rfl (Keep.cons 3 rfl (Keep.cons 4 rfl (Keep.cons 5 rfl (Keep.cons 19 rfl Keep.nil))))) ?_
      refine at_false rfl ?_
      refine at_exit rfl ?_
      refine at_seq ?_
      refine at_seq ?_
      refine at_region ?_
      refine wl_call rfl rfl rfl (en_call rfl rfl) (awake_fn _ _) ?_
      rintro _ _ ⟨rfl, rfl⟩
      refine wl_read rfl rfl rfl (yl_notT rfl rfl) ?_
      refine wl_read rfl rfl rfl (yl_move rfl rfl) ?_
      refine wl_read rfl rfl rfl (yl_move rfl rfl) ?_
      refine wl_call rfl rfl rfl (en_call rfl rfl) (len_fn s.ms _ g _ _) ?_
      rintro _ _ ⟨rfl, rfl⟩
      refine wl_read rfl rfl rfl (yl_move rfl rfl) ?_
      refine wl_read rfl rfl rfl (yl_len rfl rfl Try.underlying31) ?_
      refine wl_read rfl rfl rfl ((yp_neq rfl rfl rfl).2 (by omega)) ?_
      refine wl_read rfl rfl rfl (yl_pickF rfl rfl rfl) ?_
      refine wl_nil ?_
      refine at_keep (Keep.cons 0 rfl (Keep.cons 3 rfl (Keep.cons 4 rfl (Keep.cons 5 rfl (Keep.cons 19 rfl (Keep.cons 46 rfl Keep.nil)))))) ?_
      refine at_false rfl ?_
      refine at_skip ?_
      refine at_seq ?_
      refine at_seq ?_
      refine at_heap (fun _ hw => hw.front2.front2.front2) ?_
      refine at_region ?_
      refine wl_read rfl rfl rfl (yl_assign rfl rfl) ?_
      refine wl_nil ?_
      refine at_keep (Keep.cons 0 rfl (Keep.cons 3 rfl (Keep.cons 4 rfl (Keep.cons 5 rfl (Keep.cons 6 rfl (Keep.cons 19 rfl (Keep.cons 46 rfl Keep.nil))))))) ?_
      refine at_block ?_
      refine at_keep (L' := (fun (i : Nat) => [(3, .pointer (some ⟨g, 0, none⟩)), (4, .slice s.A s.ws.length s.c), (6, .int .i64 (i : Int))]) 0) (Keep.consEq 3 rfl rfl (Keep.consEq 4 rfl rfl (Keep.consEq 6 rfl rfl Keep.nil))) ?_
      refine at_loop1 (fun (i : Nat) => i ≤ s.ws.length) (fun (i : Nat) => [(3, .pointer (some ⟨g, 0, none⟩)), (4, .slice s.A s.ws.length s.c), (6, .int .i64 (i : Int))]) (fun (i : Nat) => Chn 58 g (s.ms.drop i) ⟨s.n, (i : Int), 0, 0⟩ :: Sl s.A s.c 27 s.ws :: Pool s.pl :: H) (fun (i : Nat) => s.ws.length - i) 0 (by omega) ?_
      intro i hI2 ih
      refine at_seq ?_
      refine at_seq ?_
      refine at_region ?_
      refine wl_read rfl rfl rfl (yl_move rfl rfl) ?_
      refine wl_read rfl rfl rfl (yl_move rfl rfl) ?_
      refine wl_read rfl rfl rfl (yl_len rfl rfl Try.underlying31) ?_
      refine wl_split rfl rfl rfl (yp_lss rfl rfl rfl) ?_ ?_
      · intro h11_3
        refine wl_nil ?_
        refine at_keep (Keep.cons 3 rfl (Keep.cons 4 rfl (Keep.cons 6 rfl (Keep.cons 50 rfl Keep.nil)))) ?_
        refine at_true rfl ?_
        refine at_skip ?_
        refine at_seq ?_
        refine at_block ?_
        refine at_seq ?_
        have hiw : i < s.ws.length := by omega
        have him : i < s.ms.length := by omega
        have hin2 : ∀ m, m ∈ s.ms.drop i → m.mem ∈ s.pl := fun m hm => hI0.inp m (List.mem_of_mem_drop hm)
        have hsz2 : ∀ m, m ∈ s.ms.drop i → m.bs.length ≤ 1000 := fun m hm => hI0.sz m (List.mem_of_mem_drop hm)
        have hbe := hI0.eq i hiw
        have hdl : (s.ms.drop i).length = s.ms.length - i := List.length_drop
        refine at_region ?_
        refine wl_read rfl rfl rfl (yl_move rfl rfl) ?_
        refine wl_call rfl rfl rfl (en_call rfl rfl) (deliver0 s.ms i _ g _ _ (okpl hin2 hsz2 (by omega) 1 rfl) him (by simp; omega)) ?_
        rintro _ _ ⟨A5, c5, rfl, rfl⟩
        refine wl_read rfl rfl rfl (yl_move rfl rfl) ?_
        refine wl_read rfl rfl rfl (yl_extract rfl rfl rfl) ?_
        refine wl_read rfl rfl rfl (yl_extract rfl rfl rfl) ?_
        refine wl_eff rfl rfl rfl (ef_alloc (cs := [.int .i64 0, .int .i64 0, .slice none 0 0]) (z := .agg #[.int .i64 0, .int .i64 0, .slice none 0 0]) rfl (by kernel_rfl) rfl) ?_
        rintro _ _ ⟨g7, rfl, rfl⟩
        refine wl_store rfl rfl (es_at0 (es_storeN 0 rfl rfl rfl rfl (by kernel_rfl) rfl rfl)) ?_
        refine wl_read rfl rfl rfl (yl_assign rfl rfl) ?_
        refine wl_nil ?_
        refine at_keep (Keep.cons 3 rfl (Keep.cons 4 rfl (Keep.cons 6 rfl (Keep.cons 7 rfl (Keep.cons 8 rfl (Keep.cons 50 rfl Keep.nil)))))) ?_
        refine at_seq ?_
        refine at_draw0 (.fl 0 (.fl 1 (.fl 2 (.fl 3 (.fl 4 (.fl 5 (.fl 6 (.fl 7 (.fl 8 (.ef 9 (.fl 10 (.fl 11 (.fl 12 (.fl 13 (.fl 14 (.fl 15 (.fl 16 .nil))))))))))))))))) (by kernel_rfl) (by kernel_rfl) ?_
        refine wt_read rfl rfl rfl rfl (yl_move rfl rfl) ?_
        refine wt_read rfl rfl rfl rfl (yl_notT rfl rfl) ?_
        refine wt_read rfl rfl rfl rfl (yl_move rfl rfl) ?_
        refine wt_read rfl rfl rfl rfl (yl_fieldB rfl rfl Try.underlying33 rfl (by kernel_rfl) rfl) ?_
        refine wt_read rfl rfl rfl rfl (yl_load rfl rfl Try.underlying27 rfl (CellAt.bk 0 rfl rfl)) ?_
        refine wt_read rfl rfl rfl rfl (yl_move rfl rfl) ?_
        refine wt_read rfl rfl rfl rfl (yl_move rfl rfl) ?_
        refine wt_read rfl rfl rfl rfl (yl_index rfl rfl rfl (Rd.of_sl 3 rfl) (at_some hiw) rfl rfl Try.underlying31 (by kernel_rfl) rfl) ?_
        refine wt_read rfl rfl rfl rfl (yl_load rfl rfl Try.underlying27 rfl ((Rd.of_sl 3 rfl).cell2 (at_some hiw) (i := 0) rfl)) ?_
        refine wt_call rfl rfl rfl rfl (en_call rfl rfl) (bytes_fn (at_ s.ms i).bs (at_ s.ws i).xs _ _ _ _ _ _ (Rd.of_sl (xs := (at_ s.ms i).bs) 1 rfl) ((((((hE _ (hI0.ws _ (at_in hiw))).cons _).cons _).cons _).cons _).cons _)) ?_
        rintro _ _ ⟨rfl, rfl⟩
        refine ⟨⟨[], rfl⟩, ?_⟩
        rw [decide_eq_true hbe.1]
        refine wt_read rfl rfl rfl rfl (yl_notT rfl rfl) ?_
        refine wt_read rfl rfl rfl rfl (yl_pickF rfl rfl rfl) ?_
        refine wt_read rfl rfl rfl rfl (yl_move rfl rfl) ?_
        refine wt_read rfl rfl rfl rfl (yl_fieldB rfl rfl Try.underlying33 rfl (by kernel_rfl) rfl) ?_
        refine wt_read rfl rfl rfl rfl (yl_load rfl rfl Try.underlying3 rfl (CellAt.bk 0 rfl rfl)) ?_
        refine wt_read rfl rfl rfl rfl ((yp_neq rfl rfl rfl).2 (fun hc => hc hbe.2)) ?_
        refine wt_read rfl rfl rfl rfl (yl_pickF rfl rfl rfl) ?_
        refine wt_nil ?_
        refine at_keep (Keep.cons 3 rfl (Keep.cons 4 rfl (Keep.cons 6 rfl (Keep.cons 7 rfl (Keep.cons 8 rfl (Keep.cons 50 rfl (Keep.cons 74 rfl Keep.nil))))))) ?_
        refine at_false rfl ?_
        refine at_skip ?_
        refine at_inBlock ?_
        refine at_heap (fun _ hw => hw.tail) ?_
        refine at_heap (fun _ hw => hw.tail) ?_
        refine at_heap (fun _ hw => hw.front2.front2.front2) ?_
        refine at_region ?_
        refine wl_read rfl rfl rfl (yl_move rfl rfl) ?_
        refine wl_read rfl rfl rfl (yl_add rfl rfl rfl (w64 (by omega) (by omega))) ?_
        refine wl_read rfl rfl rfl (yl_assign rfl rfl) ?_
        refine wl_nil ?_
        refine at_keep (Keep.cons 3 rfl (Keep.cons 4 rfl (Keep.cons 6 rfl (Keep.cons 7 rfl (Keep.cons 8 rfl (Keep.cons 50 rfl (Keep.cons 74 rfl Keep.nil))))))) ?_
        exact at_keep (L' := (fun (i : Nat) => [(3, .pointer (some ⟨g, 0, none⟩)), (4, .slice s.A s.ws.length s.c), (6, .int .i64 (i : Int))]) (i + 1)) (Keep.consEq 3 rfl rfl (Keep.consEq 4 rfl rfl (Keep.consEq 6 rfl rfl Keep.nil))) (ih (i + 1) (by omega) (by omega))
      · intro h11_3
        refine wl_nil ?_
        refine at_keep (Keep.cons 3 rfl (Keep.cons 4 rfl (Keep.cons 6 rfl (Keep.cons 50 rfl Keep.nil)))) ?_
        refine at_false rfl ?_
        refine at_exit rfl ?_
        refine at_seq ?_
        obtain rfl : i = s.ws.length := by omega
        have hdl : (s.ms.drop s.ws.length).length = 0 := by rw [List.length_drop]; omega
        refine at_region ?_
        refine wl_read rfl rfl rfl (yl_move rfl rfl) ?_
        refine wl_call rfl rfl rfl (en_call rfl rfl) (deliver_out (s.ms.drop s.ws.length) _ g _ _ 0 (by rw [hdl]; omega)) ?_
        rintro _ _ ⟨rfl, rfl⟩
        refine wl_read rfl rfl rfl (yl_move rfl rfl) ?_
        refine wl_read rfl rfl rfl (yl_extract rfl rfl rfl) ?_
        refine wl_read rfl rfl rfl (yl_extract rfl rfl rfl) ?_
        refine wl_eff rfl rfl rfl (ef_alloc (cs := [.int .i64 0, .int .i64 0, .slice none 0 0]) (z := .agg #[.int .i64 0, .int .i64 0, .slice none 0 0]) rfl (by kernel_rfl) rfl) ?_
        rintro _ _ ⟨g9, rfl, rfl⟩
        refine wl_store rfl rfl (es_at0 (es_storeN 0 rfl rfl rfl rfl (by kernel_rfl) rfl rfl)) ?_
        refine wl_read rfl rfl rfl (yl_assign rfl rfl) ?_
        refine wl_nil ?_
        refine at_keep (Keep.cons 3 rfl (Keep.cons 4 rfl (Keep.cons 6 rfl (Keep.cons 10 rfl (Keep.cons 50 rfl Keep.nil))))) ?_
        refine at_seq ?_
        refine at_region ?_
        refine wl_read rfl rfl rfl (yl_move rfl rfl) ?_
        refine wl_read rfl rfl rfl (yl_notF rfl rfl) ?_
        refine wl_read rfl rfl rfl (yl_move rfl rfl) ?_
        refine wl_read rfl rfl rfl (yl_move rfl rfl) ?_
        refine wl_heap (fun _ hw => hw.front1) ?_
        refine wl_call rfl rfl rfl (en_call rfl rfl) (len_fn _ _ g _ _) ?_
        rintro _ _ ⟨rfl, rfl⟩
        refine wl_read rfl rfl rfl ((yp_eql rfl rfl rfl).1 (by rw [hdl]; rfl)) ?_
        refine wl_read rfl rfl rfl (yl_pickT rfl rfl rfl) ?_
        refine wl_read rfl rfl rfl (yl_assign rfl rfl) ?_
        refine wl_nil ?_
        refine at_keep (Keep.cons 2 rfl (Keep.cons 3 rfl (Keep.cons 4 rfl (Keep.cons 6 rfl (Keep.cons 10 rfl (Keep.cons 50 rfl Keep.nil)))))) ?_
        refine at_retH (fun _ hw => hw.tail.tail.tail.tail) Try.func4 (res1 rfl rfl) ?_
        exact ⟨rfl, rfl⟩
  · intro h4_3
    refine wl_read rfl rfl rfl (yl_move rfl rfl) ?_
    refine wl_skip rfl rfl rfl ?_
    refine wl_skip rfl rfl rfl ?_
    refine wl_read rfl rfl rfl (yl_pickF rfl rfl rfl) ?_
    refine wl_nil ?_
    refine at_keep (Keep.cons 0 rfl (Keep.cons 3 rfl (Keep.cons 4 rfl (Keep.cons 5 rfl (Keep.cons 19 rfl Keep.nil))))) ?_
    refine at_false rfl ?_
    refine at_exit rfl ?_
    refine at_seq ?_
    refine at_seq ?_
    refine at_region ?_
    refine wl_call rfl rfl rfl (en_call rfl rfl) (awake_fn _ _) ?_
    rintro _ _ ⟨rfl, rfl⟩
    refine wl_read rfl rfl rfl (yl_notT rfl rfl) ?_
    refine wl_read rfl rfl rfl (yl_move rfl rfl) ?_
    refine wl_read rfl rfl rfl (yl_move rfl rfl) ?_
    refine wl_call rfl rfl rfl (en_call rfl rfl) (len_fn s.ms _ g _ _) ?_
    rintro _ _ ⟨rfl, rfl⟩
    refine wl_read rfl rfl rfl (yl_move rfl rfl) ?_
    refine wl_read rfl rfl rfl (yl_len rfl rfl Try.underlying31) ?_
    refine wl_read rfl rfl rfl ((yp_neq rfl rfl rfl).2 (by omega)) ?_
    refine wl_read rfl rfl rfl (yl_pickF rfl rfl rfl) ?_
    refine wl_nil ?_
    refine at_keep (Keep.cons 0 rfl (Keep.cons 3 rfl (Keep.cons 4 rfl (Keep.cons 5 rfl (Keep.cons 19 rfl (Keep.cons 46 rfl Keep.nil)))))) ?_
    refine at_false rfl ?_
    refine at_skip ?_
    refine at_seq ?_
    refine at_seq ?_
    refine at_heap (fun _ hw => hw.front2.front2.front2) ?_
    refine at_region ?_
    refine wl_read rfl rfl rfl (yl_assign rfl rfl) ?_
    refine wl_nil ?_
    refine at_keep (Keep.cons 0 rfl (Keep.cons 3 rfl (Keep.cons 4 rfl (Keep.cons 5 rfl (Keep.cons 6 rfl (Keep.cons 19 rfl (Keep.cons 46 rfl Keep.nil))))))) ?_
    refine at_block ?_
    refine at_keep (L' := (fun (i : Nat) => [(3, .pointer (some ⟨g, 0, none⟩)), (4, .slice s.A s.ws.length s.c), (6, .int .i64 (i : Int))]) 0) (Keep.consEq 3 rfl rfl (Keep.consEq 4 rfl rfl (Keep.consEq 6 rfl rfl Keep.nil))) ?_
    refine at_loop1 (fun (i : Nat) => i ≤ s.ws.length) (fun (i : Nat) => [(3, .pointer (some ⟨g, 0, none⟩)), (4, .slice s.A s.ws.length s.c), (6, .int .i64 (i : Int))]) (fun (i : Nat) => Chn 58 g (s.ms.drop i) ⟨s.n, (i : Int), 0, 0⟩ :: Sl s.A s.c 27 s.ws :: Pool s.pl :: H) (fun (i : Nat) => s.ws.length - i) 0 (by omega) ?_
    intro i hI2 ih
    refine at_seq ?_
    refine at_seq ?_
    refine at_region ?_
    refine wl_read rfl rfl rfl (yl_move rfl rfl) ?_
    refine wl_read rfl rfl rfl (yl_move rfl rfl) ?_
    refine wl_read rfl rfl rfl (yl_len rfl rfl Try.underlying31) ?_
    refine wl_split rfl rfl rfl (yp_lss rfl rfl rfl) ?_ ?_
    · intro h11_3
      refine wl_nil ?_
      refine at_keep (Keep.cons 3 rfl (Keep.cons 4 rfl (Keep.cons 6 rfl (Keep.cons 50 rfl Keep.nil)))) ?_
      refine at_true rfl ?_
      refine at_skip ?_
      refine at_seq ?_
      refine at_block ?_
      refine at_seq ?_
      have hiw : i < s.ws.length := by omega
      have him : i < s.ms.length := by omega
      have hin2 : ∀ m, m ∈ s.ms.drop i → m.mem ∈ s.pl := fun m hm => hI0.inp m (List.mem_of_mem_drop hm)
      have hsz2 : ∀ m, m ∈ s.ms.drop i → m.bs.length ≤ 1000 := fun m hm => hI0.sz m (List.mem_of_mem_drop hm)
      have hbe := hI0.eq i hiw
      have hdl : (s.ms.drop i).length = s.ms.length - i := List.length_drop
      refine at_region ?_
      refine wl_read rfl rfl rfl (yl_move rfl rfl) ?_
      refine wl_call rfl rfl rfl (en_call rfl rfl) (deliver0 s.ms i _ g _ _ (okpl hin2 hsz2 (by omega) 1 rfl) him (by simp; omega)) ?_
      rintro _ _ ⟨A5, c5, rfl, rfl⟩
      refine wl_read rfl rfl rfl (yl_move rfl rfl) ?_
      refine wl_read rfl rfl rfl (yl_extract rfl rfl rfl) ?_
      refine wl_read rfl rfl rfl (yl_extract rfl rfl rfl) ?_
      refine wl_eff rfl rfl rfl (ef_alloc (cs := [.int .i64 0, .int .i64 0, .slice none 0 0]) (z := .agg #[.int .i64 0, .int .i64 0, .slice none 0 0]) rfl (by kernel_rfl) rfl) ?_
      rintro _ _ ⟨g7, rfl, rfl⟩
      refine wl_store rfl rfl (es_at0 (es_storeN 0 rfl rfl rfl rfl (by kernel_rfl) rfl rfl)) ?_
      refine wl_read rfl rfl rfl (yl_assign rfl rfl) ?_
      refine wl_nil ?_
      refine at_keep (Keep.cons 3 rfl (Keep.cons 4 rfl (Keep.cons 6 rfl (Keep.cons 7 rfl (Keep.cons 8 rfl (Keep.cons 50 rfl Keep.nil)))))) ?_
      refine at_seq ?_
      refine at_draw0 (.fl 0 (.fl 1 (.fl 2 (.fl 3 (.fl 4 (.fl 5 (.fl 6 (.fl 7 (.fl 8 (.ef 9 (.fl 10 (.fl 11 (.fl 12 (.fl 13 (.fl 14 (.fl 15 (.fl 16 .nil))))))))))))))))) (by kernel_rfl) (by kernel_rfl) ?_
      refine wt_read rfl rfl rfl rfl (yl_move rfl rfl) ?_
      refine wt_read rfl rfl rfl rfl (yl_notT rfl rfl) ?_
      refine wt_read rfl rfl rfl rfl (yl_move rfl rfl) ?_
      refine wt_read rfl rfl rfl rfl (yl_fieldB rfl rfl Try.underlying33 rfl (by kernel_rfl) rfl) ?_
      refine wt_read rfl rfl rfl rfl (yl_load rfl rfl Try.underlying27 rfl (CellAt.bk 0 rfl rfl)) ?_
      refine wt_read rfl rfl rfl rfl (yl_move rfl rfl) ?_
      refine wt_read rfl rfl rfl rfl (yl_move rfl rfl) ?_
      refine wt_read rfl rfl rfl rfl (yl_index rfl rfl rfl (Rd.of_sl 3 rfl) (at_some hiw) rfl rfl Try.underlying31 (by kernel_rfl) rfl) ?_
      refine wt_read rfl rfl rfl rfl (yl_load rfl rfl Try.underlying27 rfl ((Rd.of_sl 3 rfl).cell2 (at_some hiw) (i := 0) rfl)) ?_
      refine wt_call rfl rfl rfl rfl (en_call rfl rfl) (bytes_fn (at_ s.ms i).bs (at_ s.ws i).xs _ _ _ _ _ _ (Rd.of_sl (xs := (at_ s.ms i).bs) 1 rfl) ((((((hE _ (hI0.ws _ (at_in hiw))).cons _).cons _).cons _).cons _).cons _)) ?_
      rintro _ _ ⟨rfl, rfl⟩
      refine ⟨⟨[], rfl⟩, ?_⟩
      rw [decide_eq_true hbe.1]
      refine wt_read rfl rfl rfl rfl (yl_notT rfl rfl) ?_
      refine wt_read rfl rfl rfl rfl (yl_pickF rfl rfl rfl) ?_
      refine wt_read rfl rfl rfl rfl (yl_move rfl rfl) ?_
      refine wt_read rfl rfl rfl rfl (yl_fieldB rfl rfl Try.underlying33 rfl (by kernel_rfl) rfl) ?_
      refine wt_read rfl rfl rfl rfl (yl_load rfl rfl Try.underlying3 rfl (CellAt.bk 0 rfl rfl)) ?_
      refine wt_read rfl rfl rfl rfl ((yp_neq rfl rfl rfl).2 (fun hc => hc hbe.2)) ?_
      refine wt_read rfl rfl rfl rfl (yl_pickF rfl rfl rfl) ?_
      refine wt_nil ?_
      refine at_keep (Keep.cons 3 rfl (Keep.cons 4 rfl (Keep.cons 6 rfl (Keep.cons 7 rfl (Keep.cons 8 rfl (Keep.cons 50 rfl (Keep.cons 74 rfl Keep.nil))))))) ?_
      refine at_false rfl ?_
      refine at_skip ?_
      refine at_inBlock ?_
      refine at_heap (fun _ hw => hw.tail) ?_
      refine at_heap (fun _ hw => hw.tail) ?_
      refine at_heap (fun _ hw => hw.front2.front2.front2) ?_
      refine at_region ?_
      refine wl_read rfl rfl rfl (yl_move rfl rfl) ?_
      refine wl_read rfl rfl rfl (yl_add rfl rfl rfl (w64 (by omega) (by omega))) ?_
      refine wl_read rfl rfl rfl (yl_assign rfl rfl) ?_
      refine wl_nil ?_
      refine at_keep (Keep.cons 3 rfl (Keep.cons 4 rfl (Keep.cons 6 rfl (Keep.cons 7 rfl (Keep.cons 8 rfl (Keep.cons 50 rfl (Keep.cons 74 rfl Keep.nil))))))) ?_
      exact at_keep (L' := (fun (i : Nat) => [(3, .pointer (some ⟨g, 0, none⟩)), (4, .slice s.A s.ws.length s.c), (6, .int .i64 (i : Int))]) (i + 1)) (Keep.consEq 3 rfl rfl (Keep.consEq 4 rfl rfl (Keep.consEq 6 rfl rfl Keep.nil))) (ih (i + 1) (by omega) (by omega))
    · intro h11_3
      refine wl_nil ?_
      refine at_keep (Keep.cons 3 rfl (Keep.cons 4 rfl (Keep.cons 6 rfl (Keep.cons 50 rfl Keep.nil)))) ?_
      refine at_false rfl ?_
      refine at_exit rfl ?_
      refine at_seq ?_
      obtain rfl : i = s.ws.length := by omega
      have hdl : (s.ms.drop s.ws.length).length = 0 := by rw [List.length_drop]; omega
      refine at_region ?_
      refine wl_read rfl rfl rfl (yl_move rfl rfl) ?_
      refine wl_call rfl rfl rfl (en_call rfl rfl) (deliver_out (s.ms.drop s.ws.length) _ g _ _ 0 (by rw [hdl]; omega)) ?_
      rintro _ _ ⟨rfl, rfl⟩
      refine wl_read rfl rfl rfl (yl_move rfl rfl) ?_
      refine wl_read rfl rfl rfl (yl_extract rfl rfl rfl) ?_
      refine wl_read rfl rfl rfl (yl_extract rfl rfl rfl) ?_
      refine wl_eff rfl rfl rfl (ef_alloc (cs := [.int .i64 0, .int .i64 0, .slice none 0 0]) (z := .agg #[.int .i64 0, .int .i64 0, .slice none 0 0]) rfl (by kernel_rfl) rfl) ?_
      rintro _ _ ⟨g9, rfl, rfl⟩
      refine wl_store rfl rfl (es_at0 (es_storeN 0 rfl rfl rfl rfl (by kernel_rfl) rfl rfl)) ?_
      refine wl_read rfl rfl rfl (yl_assign rfl rfl) ?_
      refine wl_nil ?_
      refine at_keep (Keep.cons 3 rfl (Keep.cons 4 rfl (Keep.cons 6 rfl (Keep.cons 10 rfl (Keep.cons 50 rfl Keep.nil))))) ?_
      refine at_seq ?_
      refine at_region ?_
      refine wl_read rfl rfl rfl (yl_move rfl rfl) ?_
      refine wl_read rfl rfl rfl (yl_notF rfl rfl) ?_
      refine wl_read rfl rfl rfl (yl_move rfl rfl) ?_
      refine wl_read rfl rfl rfl (yl_move rfl rfl) ?_
      refine wl_heap (fun _ hw => hw.front1) ?_
      refine wl_call rfl rfl rfl (en_call rfl rfl) (len_fn _ _ g _ _) ?_
      rintro _ _ ⟨rfl, rfl⟩
      refine wl_read rfl rfl rfl ((yp_eql rfl rfl rfl).1 (by rw [hdl]; rfl)) ?_
      refine wl_read rfl rfl rfl (yl_pickT rfl rfl rfl) ?_
      refine wl_read rfl rfl rfl (yl_assign rfl rfl) ?_
      refine wl_nil ?_
      refine at_keep (Keep.cons 2 rfl (Keep.cons 3 rfl (Keep.cons 4 rfl (Keep.cons 6 rfl (Keep.cons 10 rfl (Keep.cons 50 rfl Keep.nil)))))) ?_
      refine at_retH (fun _ hw => hw.tail.tail.tail.tail) Try.func4 (res1 rfl rfl) ?_
      exact ⟨rfl, rfl⟩
end Go.Proofs.Ytcpcgllkdpfacaa

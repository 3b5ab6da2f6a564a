/- Walks of the laws that repeat and fill. -/
import Derived.Test.YtcpcgllkdpfacaaF
namespace Go.Proofs.Ytcpcgllkdpfacaa
open Go

theorem at_cl (ms : List Msg) (k : Cts) (g j : Nat) (b : World) (H : List Asr) (hok : Ok H ms) (hj : j < ms.length) : Fn Try.prog 22 [.pointer (some ⟨g, 0, none⟩), .int .i64 (j : Int)] b (Chn 58 g ms k :: H)
    (fun v H' => ∃ A' c', v = .tuple #[.agg (Enc.cells ((at_ ms j).cp A' c')).toArray, .bool true] ∧ H' = Sl A' c' 5 (at_ ms j).bs :: Chn 58 g ms k :: H) :=
  Chn.fn fun A c => (at_at ms g j b _ (CellAt.bk 0 rfl rfl) (Rd.of_sl 1 rfl) ((hok.cons _).cons _) hj).heap (by rintro v _ ⟨A', c', h1, rfl⟩; exact ⟨_, ⟨A', c', h1, rfl⟩, fun _ hw => (Chn.closes hw.down2).front1⟩)
theorem okpl {ms : List Msg} {pl : List (Mem UInt8)} {H : List Asr} (hin : ∀ m, m ∈ ms → m.mem ∈ pl) (hsz : ∀ m, m ∈ ms → m.bs.length ≤ 1000) (hlen : ms.length ≤ 500) (i : Nat) (hi : H[i]? = some (Pool pl)) : Ok H ms :=
  ⟨hlen, fun m hm => Rd.pool (m := m.mem) i hi (hin m hm), hsz⟩
theorem in_add {ms : List Msg} {pl : List (Mem UInt8)} {m : Msg} {x : Mem UInt8} (h : ∀ m, m ∈ ms → m.mem ∈ pl) (hx : m.mem = x) : ∀ y, y ∈ ms ++ [m] → y.mem ∈ x :: pl := fun y hy => by
  rcases List.mem_append.1 hy with hy | hy
  · exact List.mem_cons_of_mem _ (h y hy)
  · simp at hy; subst hy; rw [hx]; exact List.mem_cons_self
theorem sz_add {ms : List Msg} {m : Msg} (h : ∀ m, m ∈ ms → m.bs.length ≤ 1000) (hx : m.bs.length ≤ 1000) : ∀ y, y ∈ ms ++ [m] → y.bs.length ≤ 1000 := fun y hy => by
  rcases List.mem_append.1 hy with hy | hy
  · exact h y hy
  · simp at hy; subst hy; exact hx
theorem wrapu8 (j : Nat) : IntKind.u8.wrap (j : Int) = ((UInt8.ofNat j).toNat : Int) := by
  have : IntKind.u8.wrap (j : Int) = (j : Int) % 256 := by simp [IntKind.wrap, IntKind.signed, IntKind.bits]
  rw [this, UInt8.toNat_ofNat']; omega

theorem law7 (l : List Raw) (A : Option Addr) (c : Nat) (at' : Int) (b : World) (H : List Asr) (hR : Rd H A l) (hE : ∀ m, m ∈ l → Rd H m.A m.bs) (hI : ∀ m, m ∈ l → I64 m.i) : Fn Try.prog 7 [.slice A l.length c, .int .i64 at'] b H (fun v H' => v = .bool true ∧ H = H') := by
  refine fn_of_at (by kernel_rfl) Try.func7 rfl Try.ntmps7 rfl rfl ?_
  refine at_seq ?_
  refine at_region ?_
  refine wl_read rfl rfl rfl (yl_assign rfl rfl) ?_
  refine wl_nil ?_
  refine at_keep (Keep.cons 0 rfl (Keep.cons 1 rfl (Keep.cons 4 rfl Keep.nil))) ?_
  refine at_seq ?_
  refine at_region ?_
  refine wl_call rfl rfl rfl (en_call rfl rfl) (new_fn _ _) ?_
  rintro _ _ ⟨g, rfl, rfl⟩
  refine wl_read rfl rfl rfl (yl_build (cs := [.slice none 0 0, .int .i64 0, .int .i64 0, .int .i64 0, .int .i64 0]) rfl rfl (fun _ => by kernel_rfl)) ?_
  refine wl_eff rfl rfl rfl (ef_box rfl rfl rfl) ?_
  rintro _ _ ⟨r, rfl, rfl⟩
  refine wl_read rfl rfl rfl (yl_assign rfl rfl) ?_
  refine wl_read rfl rfl rfl (yl_assign rfl rfl) ?_
  refine wl_nil ?_
  refine at_keep (Keep.cons 0 rfl (Keep.cons 1 rfl (Keep.cons 4 rfl (Keep.cons 5 rfl (Keep.cons 6 rfl Keep.nil))))) ?_
  refine at_seq ?_
  refine at_seq ?_
  refine at_heap (fun _ hw => hw.scene) ?_
  refine at_region ?_
  refine wl_read rfl rfl rfl (yl_assign rfl rfl) ?_
  refine wl_nil ?_
  refine at_keep (Keep.cons 0 rfl (Keep.cons 1 rfl (Keep.cons 4 rfl (Keep.cons 5 rfl (Keep.cons 6 rfl (Keep.cons 7 rfl Keep.nil)))))) ?_
  refine at_block ?_
  refine at_keep (L' := (fun (j : Nat) (s : Sc) => [(0, .slice A l.length c), (1, .int .i64 at'), (5, .pointer (some ⟨g, 0, none⟩)), (6, .pointer (some ⟨r, 0, none⟩)), (7, .int .i64 (j : Int))]) 0 s0) (Keep.consEq 0 rfl rfl (Keep.consEq 1 rfl rfl (Keep.consEq 5 rfl rfl (Keep.consEq 6 rfl rfl (Keep.consEq 7 rfl rfl Keep.nil))))) ?_
  refine at_loop2 (fun (j : Nat) (s : Sc) => j ≤ 20 ∧ SOk s j) (fun (j : Nat) (s : Sc) => [(0, .slice A l.length c), (1, .int .i64 at'), (5, .pointer (some ⟨g, 0, none⟩)), (6, .pointer (some ⟨r, 0, none⟩)), (7, .int .i64 (j : Int))]) (fun (j : Nat) (s : Sc) => Chn 58 g s.p s.k :: Chn 42 r s.q s.k :: Pool s.pl :: H) (fun (j : Nat) (s : Sc) => l.length - j) 0 s0 ⟨by omega, s0_ok⟩ ?_
  intro j s hI0 ih
  obtain ⟨hI1, hs⟩ := hI0
  refine at_seq ?_
  refine at_seq ?_
  refine at_region ?_
  refine wl_read rfl rfl rfl (yl_move rfl rfl) ?_
  refine wl_read rfl rfl rfl (yl_move rfl rfl) ?_
  refine wl_read rfl rfl rfl (yl_len rfl rfl Try.underlying38) ?_
  refine wl_split rfl rfl rfl (yp_lss rfl rfl rfl) ?_ ?_
  · intro h3_3
    refine wl_read rfl rfl rfl (yl_move rfl rfl) ?_
    refine wl_read rfl rfl rfl (yl_move rfl rfl) ?_
    refine wl_split rfl rfl rfl (yp_lss rfl rfl rfl) ?_ ?_
    · intro h3_6
      refine wl_read rfl rfl rfl (yl_pickT rfl rfl rfl) ?_
      refine wl_nil ?_
      refine at_keep (Keep.cons 0 rfl (Keep.cons 1 rfl (Keep.cons 5 rfl (Keep.cons 6 rfl (Keep.cons 7 rfl (Keep.cons 26 rfl Keep.nil)))))) ?_
      refine at_true rfl ?_
      refine at_skip ?_
      refine at_seq ?_
      refine at_block ?_
      refine at_seq ?_
      have hj1 : j < l.length := by omega
      refine at_region ?_
      refine wl_read rfl rfl rfl (yl_move rfl rfl) ?_
      refine wl_read rfl rfl rfl (yl_move rfl rfl) ?_
      refine wl_read rfl rfl rfl (yl_move rfl rfl) ?_
      refine wl_read rfl rfl rfl (yl_move rfl rfl) ?_
      refine wl_read rfl rfl rfl (yl_index rfl rfl rfl (((hR.cons _).cons _).cons _) (at_some hj1) rfl rfl Try.underlying38 (by kernel_rfl) rfl) ?_
      refine wl_read rfl rfl rfl (yl_loadRow rfl rfl (((hR.cons _).cons _).cons _) (at_some hj1) Try.underlying45 rfl (by kernel_rfl) rfl) ?_
      refine wl_call rfl rfl rfl (en_call rfl rfl) (step_fn s j g r (at_ l j) _ _ hs (by omega) (hE _ (at_in hj1)) (hI _ (at_in hj1))) ?_
      rintro _ _ ⟨rfl, s', hs', hsub, rfl⟩
      refine wl_read rfl rfl rfl (yl_notT rfl rfl) ?_
      refine wl_nil ?_
      refine at_keep (Keep.cons 0 rfl (Keep.cons 1 rfl (Keep.cons 5 rfl (Keep.cons 6 rfl (Keep.cons 7 rfl (Keep.cons 26 rfl (Keep.cons 36 rfl Keep.nil))))))) ?_
      refine at_false rfl ?_
      refine at_skip ?_
      refine at_inBlock ?_
      refine at_region ?_
      refine wl_read rfl rfl rfl (yl_move rfl rfl) ?_
      refine wl_read rfl rfl rfl (yl_add rfl rfl rfl (w64 (by omega) (by omega))) ?_
      refine wl_read rfl rfl rfl (yl_assign rfl rfl) ?_
      refine wl_nil ?_
      refine at_keep (Keep.cons 0 rfl (Keep.cons 1 rfl (Keep.cons 5 rfl (Keep.cons 6 rfl (Keep.cons 7 rfl (Keep.cons 26 rfl (Keep.cons 36 rfl Keep.nil))))))) ?_
      exact at_keep (L' := (fun (j : Nat) (s : Sc) => [(0, .slice A l.length c), (1, .int .i64 at'), (5, .pointer (some ⟨g, 0, none⟩)), (6, .pointer (some ⟨r, 0, none⟩)), (7, .int .i64 (j : Int))]) (j + 1) s') (Keep.consEq 0 rfl rfl (Keep.consEq 1 rfl rfl (Keep.consEq 5 rfl rfl (Keep.consEq 6 rfl rfl (Keep.consEq 7 rfl rfl Keep.nil))))) (ih (j + 1) s' ⟨by omega, hs'⟩ (by omega))
    · intro h3_6
      refine wl_read rfl rfl rfl (yl_pickT rfl rfl rfl) ?_
      refine wl_nil ?_
      refine at_keep (Keep.cons 0 rfl (Keep.cons 1 rfl (Keep.cons 5 rfl (Keep.cons 6 rfl (Keep.cons 7 rfl (Keep.cons 26 rfl Keep.nil)))))) ?_
      refine at_false rfl ?_
      refine at_exit rfl ?_
      refine at_seq ?_
      have hlen := hs.len
      have hkr := hs.kr
      refine at_region ?_
      refine wl_read rfl rfl rfl (yl_move rfl rfl) ?_
      refine wl_call rfl rfl rfl (en_call rfl rfl) (len_fn s.p s.k g _ _) ?_
      rintro _ _ ⟨rfl, rfl⟩
      refine wl_read rfl rfl rfl (yl_assign rfl rfl) ?_
      refine wl_nil ?_
      refine at_keep (Keep.cons 0 rfl (Keep.cons 1 rfl (Keep.cons 5 rfl (Keep.cons 6 rfl (Keep.cons 7 rfl (Keep.cons 8 rfl (Keep.cons 26 rfl Keep.nil))))))) ?_
      refine at_seq ?_
      refine at_seq ?_
      refine at_region ?_
      refine wl_read rfl rfl rfl (yl_move rfl rfl) ?_
      refine wl_split rfl rfl rfl (yp_eql rfl rfl rfl) ?_ ?_
      · intro h8_1
        refine wl_nil ?_
        refine at_keep (Keep.cons 0 rfl (Keep.cons 1 rfl (Keep.cons 5 rfl (Keep.cons 6 rfl (Keep.cons 7 rfl (Keep.cons 8 rfl (Keep.cons 26 rfl (Keep.cons 40 rfl Keep.nil)))))))) ?_
        refine at_true rfl ?_
        refine at_seq ?_
        refine at_region ?_
        refine wl_call rfl rfl rfl (en_call rfl rfl) (awake_fn _ _) ?_
        rintro _ _ ⟨rfl, rfl⟩
        refine wl_read rfl rfl rfl (yl_move rfl rfl) ?_
        refine wl_read rfl rfl rfl (yl_move rfl rfl) ?_
        refine wl_call rfl rfl rfl (en_call rfl rfl) (repeat_out s.p s.k g _ _ 0 (by omega)) ?_
        rintro _ _ ⟨rfl, rfl⟩
        refine wl_read rfl rfl rfl ((yp_eql rfl rfl rfl).1 rfl) ?_
        refine wl_read rfl rfl rfl (yl_pickT rfl rfl rfl) ?_
        refine wl_read rfl rfl rfl (yl_assign rfl rfl) ?_
        refine wl_nil ?_
        refine at_keep (Keep.cons 0 rfl (Keep.cons 1 rfl (Keep.cons 4 rfl (Keep.cons 5 rfl (Keep.cons 6 rfl (Keep.cons 7 rfl (Keep.cons 8 rfl (Keep.cons 26 rfl (Keep.cons 40 rfl Keep.nil))))))))) ?_
        refine at_retH (fun _ hw => hw.tail.tail.tail) Try.func7 (res1 rfl rfl) ?_
        exact ⟨rfl, rfl⟩
      · intro h8_1
        refine wl_nil ?_
        refine at_keep (Keep.cons 0 rfl (Keep.cons 1 rfl (Keep.cons 5 rfl (Keep.cons 6 rfl (Keep.cons 7 rfl (Keep.cons 8 rfl (Keep.cons 26 rfl (Keep.cons 40 rfl Keep.nil)))))))) ?_
        refine at_false rfl ?_
        refine at_skip ?_
        refine at_seq ?_
        refine at_region ?_
        refine wl_read rfl rfl rfl (yl_move rfl rfl) ?_
        refine wl_read rfl rfl rfl (yl_move rfl rfl) ?_
        refine wl_call rfl rfl rfl (en_call rfl rfl) (mod_fn _ _ _ _ (by omega) (by omega)) ?_
        rintro _ _ ⟨rfl, rfl⟩
        refine wl_read rfl rfl rfl (yl_assign rfl rfl) ?_
        refine wl_nil ?_
        refine at_keep (Keep.cons 0 rfl (Keep.cons 1 rfl (Keep.cons 5 rfl (Keep.cons 6 rfl (Keep.cons 7 rfl (Keep.cons 8 rfl (Keep.cons 9 rfl (Keep.cons 26 rfl (Keep.cons 40 rfl Keep.nil))))))))) ?_
        refine at_seq ?_
        have hmd := md_bd at' (s.p.length : Int) (by omega)
        obtain ⟨i0, hi0⟩ : ∃ i0 : Nat, md at' (s.p.length : Int) = (i0 : Int) := ⟨_, (Int.toNat_of_nonneg hmd.1).symm⟩
        rw [hi0]
        have hil : i0 < s.p.length := by omega
        have hsz0 := hs.szp _ (at_in hil)
        refine at_region ?_
        refine wl_read rfl rfl rfl (yl_move rfl rfl) ?_
        refine wl_read rfl rfl rfl (yl_move rfl rfl) ?_
        refine wl_call rfl rfl rfl (en_call rfl rfl) (at_cl s.p s.k g i0 _ _ (okP hs (by omega) 1 rfl) hil) ?_
        rintro _ _ ⟨A1, c1, rfl, rfl⟩
        refine wl_read rfl rfl rfl (yl_move rfl rfl) ?_
        refine wl_read rfl rfl rfl (yl_extract rfl rfl rfl) ?_
        refine wl_read rfl rfl rfl (yl_extract rfl rfl rfl) ?_
        refine wl_eff rfl rfl rfl (ef_alloc (cs := [.int .i64 0, .int .i64 0, .slice none 0 0]) (z := .agg #[.int .i64 0, .int .i64 0, .slice none 0 0]) rfl (by kernel_rfl) rfl) ?_
        rintro _ _ ⟨g1, rfl, rfl⟩
        refine wl_store rfl rfl (es_at0 (es_storeN 0 rfl rfl rfl rfl (by kernel_rfl) rfl rfl)) ?_
        refine wl_read rfl rfl rfl (yl_assign rfl rfl) ?_
        refine wl_nil ?_
        refine at_keep (Keep.cons 0 rfl (Keep.cons 1 rfl (Keep.cons 5 rfl (Keep.cons 6 rfl (Keep.cons 7 rfl (Keep.cons 8 rfl (Keep.cons 9 rfl (Keep.cons 10 rfl (Keep.cons 11 rfl (Keep.cons 26 rfl (Keep.cons 40 rfl Keep.nil))))))))))) ?_
        refine at_seq ?_
        refine at_seq ?_
        refine at_region ?_
        refine wl_call rfl rfl rfl (en_call rfl rfl) (awake_fn _ _) ?_
        rintro _ _ ⟨rfl, rfl⟩
        refine wl_read rfl rfl rfl (yl_notT rfl rfl) ?_
        refine wl_read rfl rfl rfl (yl_move rfl rfl) ?_
        refine wl_read rfl rfl rfl (yl_move rfl rfl) ?_
        refine wl_read rfl rfl rfl (yl_notT rfl rfl) ?_
        refine wl_read rfl rfl rfl (yl_pickF rfl rfl rfl) ?_
        refine wl_read rfl rfl rfl (yl_move rfl rfl) ?_
        refine wl_read rfl rfl rfl (yl_move rfl rfl) ?_
        refine wl_read rfl rfl rfl (yl_move rfl rfl) ?_
        refine wl_heap (fun _ hw => hw.front2) ?_
        refine wl_call rfl rfl rfl (en_call rfl rfl) (repeat_fn s.p s.k g _ _ i0 (okP hs (by omega) 3 rfl) hil (by omega) (by omega)) ?_
        rintro _ _ ⟨A2, c2, rfl, rfl⟩
        refine wl_read rfl rfl rfl ((yp_neq rfl rfl rfl).2 (by simp)) ?_
        refine wl_read rfl rfl rfl (yl_pickF rfl rfl rfl) ?_
        refine wl_read rfl rfl rfl (yl_move rfl rfl) ?_
        refine wl_read rfl rfl rfl (yl_move rfl rfl) ?_
        refine wl_heap (fun _ hw => hw.front1) ?_
        refine wl_call rfl rfl rfl (en_call rfl rfl) (len_fn (s.p ++ [(at_ s.p i0).cp A2 c2]) { s.k with rep := s.k.rep + 1 } g _ _) ?_
        rintro _ _ ⟨rfl, rfl⟩
        refine wl_read rfl rfl rfl (yl_move rfl rfl) ?_
        refine wl_read rfl rfl rfl (yl_add rfl rfl rfl (w64 (by omega) (by omega))) ?_
        refine wl_read rfl rfl rfl ((yp_neq rfl rfl rfl).2 (by simp)) ?_
        refine wl_read rfl rfl rfl (yl_pickF rfl rfl rfl) ?_
        refine wl_nil ?_
        refine at_keep (Keep.cons 0 rfl (Keep.cons 1 rfl (Keep.cons 5 rfl (Keep.cons 6 rfl (Keep.cons 7 rfl (Keep.cons 8 rfl (Keep.cons 9 rfl (Keep.cons 10 rfl (Keep.cons 11 rfl (Keep.cons 26 rfl (Keep.cons 40 rfl (Keep.cons 74 rfl Keep.nil)))))))))))) ?_
        refine at_false rfl ?_
        refine at_skip ?_
        refine at_seq ?_
        refine at_heap (fun _ hw => hw.front5.front2) ?_
        refine at_heap (fun _ hw => hw.poolIn) ?_
        have hin2 : ∀ m, m ∈ (s.p ++ [(at_ s.p i0).cp A2 c2]) → m.mem ∈ (⟨A2, c2, (at_ s.p i0).bs⟩ : Mem UInt8) :: s.pl := in_add hs.inp rfl
        have hsz2 : ∀ m, m ∈ (s.p ++ [(at_ s.p i0).cp A2 c2]) → m.bs.length ≤ 1000 := sz_add hs.szp hsz0
        have hl2 : (s.p ++ [(at_ s.p i0).cp A2 c2]).length = s.p.length + 1 := by simp
        have he1 : at_ (s.p ++ [(at_ s.p i0).cp A2 c2]) i0 = at_ s.p i0 := at_app_left hil
        have he2 : at_ (s.p ++ [(at_ s.p i0).cp A2 c2]) s.p.length = (at_ s.p i0).cp A2 c2 := at_app_last _ _
        refine at_region ?_
        refine wl_read rfl rfl rfl (yl_move rfl rfl) ?_
        refine wl_read rfl rfl rfl (yl_move rfl rfl) ?_
        refine wl_heap (fun _ hw => hw.front1) ?_
        refine wl_call rfl rfl rfl (en_call rfl rfl) (at_cl (s.p ++ [(at_ s.p i0).cp A2 c2]) { s.k with rep := s.k.rep + 1 } g i0 _ _ (okpl hin2 hsz2 (by omega) 0 rfl) (by omega)) ?_
        rintro _ _ ⟨A3, c3, rfl, rfl⟩
        rw [he1]
        refine wl_read rfl rfl rfl (yl_move rfl rfl) ?_
        refine wl_read rfl rfl rfl (yl_extract rfl rfl rfl) ?_
        refine wl_read rfl rfl rfl (yl_extract rfl rfl rfl) ?_
        refine wl_eff rfl rfl rfl (ef_alloc (cs := [.int .i64 0, .int .i64 0, .slice none 0 0]) (z := .agg #[.int .i64 0, .int .i64 0, .slice none 0 0]) rfl (by kernel_rfl) rfl) ?_
        rintro _ _ ⟨g3, rfl, rfl⟩
        refine wl_store rfl rfl (es_at0 (es_storeN 0 rfl rfl rfl rfl (by kernel_rfl) rfl rfl)) ?_
        refine wl_read rfl rfl rfl (yl_assign rfl rfl) ?_
        refine wl_nil ?_
        refine at_keep (Keep.cons 0 rfl (Keep.cons 1 rfl (Keep.cons 5 rfl (Keep.cons 6 rfl (Keep.cons 7 rfl (Keep.cons 8 rfl (Keep.cons 9 rfl (Keep.cons 10 rfl (Keep.cons 11 rfl (Keep.cons 12 rfl (Keep.cons 13 rfl (Keep.cons 26 rfl (Keep.cons 40 rfl (Keep.cons 74 rfl Keep.nil)))))))))))))) ?_
        refine at_seq ?_
        refine at_region ?_
        refine wl_read rfl rfl rfl (yl_move rfl rfl) ?_
        refine wl_read rfl rfl rfl (yl_move rfl rfl) ?_
        refine wl_heap (fun _ hw => hw.front2) ?_
        refine wl_call rfl rfl rfl (en_call rfl rfl) (at_cl (s.p ++ [(at_ s.p i0).cp A2 c2]) { s.k with rep := s.k.rep + 1 } g s.p.length _ _ (okpl hin2 hsz2 (by omega) 2 rfl) (by omega)) ?_
        rintro _ _ ⟨A4, c4, rfl, rfl⟩
        rw [he2]
        refine wl_read rfl rfl rfl (yl_move rfl rfl) ?_
        refine wl_read rfl rfl rfl (yl_extract rfl rfl rfl) ?_
        refine wl_read rfl rfl rfl (yl_extract rfl rfl rfl) ?_
        refine wl_eff rfl rfl rfl (ef_alloc (cs := [.int .i64 0, .int .i64 0, .slice none 0 0]) (z := .agg #[.int .i64 0, .int .i64 0, .slice none 0 0]) rfl (by kernel_rfl) rfl) ?_
        rintro _ _ ⟨g4, rfl, rfl⟩
        refine wl_store rfl rfl (es_at0 (es_storeN 0 rfl rfl rfl rfl (by kernel_rfl) rfl rfl)) ?_
        refine wl_read rfl rfl rfl (yl_assign rfl rfl) ?_
        refine wl_nil ?_
        refine at_keep (Keep.cons 0 rfl (Keep.cons 1 rfl (Keep.cons 5 rfl (Keep.cons 6 rfl (Keep.cons 7 rfl (Keep.cons 8 rfl (Keep.cons 9 rfl (Keep.cons 10 rfl (Keep.cons 11 rfl (Keep.cons 12 rfl (Keep.cons 13 rfl (Keep.cons 14 rfl (Keep.cons 15 rfl (Keep.cons 26 rfl (Keep.cons 40 rfl (Keep.cons 74 rfl Keep.nil)))))))))))))))) ?_
        refine at_seq ?_
        refine at_region ?_
        refine wl_read rfl rfl rfl (yl_move rfl rfl) ?_
        refine wl_read rfl rfl rfl (yl_move rfl rfl) ?_
        refine wl_read rfl rfl rfl (yl_move rfl rfl) ?_
        refine wl_read rfl rfl rfl (yl_pickT rfl rfl rfl) ?_
        refine wl_read rfl rfl rfl (yl_move rfl rfl) ?_
        refine wl_read rfl rfl rfl (yl_loadBk 6 rfl rfl rfl Try.underlying33 rfl (by kernel_rfl)) ?_
        refine wl_read rfl rfl rfl (yl_loadBk 3 rfl rfl rfl Try.underlying33 rfl (by kernel_rfl)) ?_
        refine wl_call rfl rfl rfl (en_call rfl rfl) (message_fn ((at_ s.p i0).cp A1 c1) ((at_ s.p i0).cp A3 c3) _ _ (Rd.of_sl (xs := (at_ s.p i0).bs) 7 rfl) (Rd.of_sl (xs := (at_ s.p i0).bs) 4 rfl)) ?_
        rintro _ _ ⟨rfl, rfl⟩
        rw [decide_eq_true (show ((at_ s.p i0).cp A1 c1).abs = ((at_ s.p i0).cp A3 c3).abs from rfl)]
        refine wl_read rfl rfl rfl (yl_pickT rfl rfl rfl) ?_
        refine wl_read rfl rfl rfl (yl_move rfl rfl) ?_
        refine wl_read rfl rfl rfl (yl_loadBk 6 rfl rfl rfl Try.underlying33 rfl (by kernel_rfl)) ?_
        refine wl_read rfl rfl rfl (yl_loadBk 0 rfl rfl rfl Try.underlying33 rfl (by kernel_rfl)) ?_
        refine wl_call rfl rfl rfl (en_call rfl rfl) (message_fn ((at_ s.p i0).cp A1 c1) (((at_ s.p i0).cp A2 c2).cp A4 c4) _ _ (Rd.of_sl (xs := (at_ s.p i0).bs) 7 rfl) (Rd.of_sl (xs := (at_ s.p i0).bs) 1 rfl)) ?_
        rintro _ _ ⟨rfl, rfl⟩
        rw [decide_eq_true (show ((at_ s.p i0).cp A1 c1).abs = (((at_ s.p i0).cp A2 c2).cp A4 c4).abs from rfl)]
        refine wl_read rfl rfl rfl (yl_pickT rfl rfl rfl) ?_
        refine wl_read rfl rfl rfl (yl_move rfl rfl) ?_
        refine wl_read rfl rfl rfl (yl_move rfl rfl) ?_
        refine wl_read rfl rfl rfl (yl_move rfl rfl) ?_
        refine wl_read rfl rfl rfl (yl_add rfl rfl rfl (w64 (by omega) (by omega))) ?_
        refine wl_heap (fun _ hw => hw.front2) ?_
        refine wl_call rfl rfl rfl (en_call rfl rfl) (repeat_out (s.p ++ [(at_ s.p i0).cp A2 c2]) { s.k with rep := s.k.rep + 1 } g _ _ _ (by omega)) ?_
        rintro _ _ ⟨rfl, rfl⟩
        refine wl_read rfl rfl rfl ((yp_eql rfl rfl rfl).1 rfl) ?_
        refine wl_read rfl rfl rfl (yl_pickT rfl rfl rfl) ?_
        refine wl_read rfl rfl rfl (yl_move rfl rfl) ?_
        refine wl_read rfl rfl rfl (yl_move rfl rfl) ?_
        refine wl_call rfl rfl rfl (en_call rfl rfl) (repeat_out (s.p ++ [(at_ s.p i0).cp A2 c2]) { s.k with rep := s.k.rep + 1 } g _ _ _ (by omega)) ?_
        rintro _ _ ⟨rfl, rfl⟩
        refine wl_read rfl rfl rfl ((yp_eql rfl rfl rfl).1 rfl) ?_
        refine wl_read rfl rfl rfl (yl_pickT rfl rfl rfl) ?_
        refine wl_read rfl rfl rfl (yl_assign rfl rfl) ?_
        refine wl_nil ?_
        refine at_keep (Keep.cons 0 rfl (Keep.cons 1 rfl (Keep.cons 4 rfl (Keep.cons 5 rfl (Keep.cons 6 rfl (Keep.cons 7 rfl (Keep.cons 8 rfl (Keep.cons 9 rfl (Keep.cons 10 rfl (Keep.cons 11 rfl (Keep.cons 12 rfl (Keep.cons 13 rfl (Keep.cons 14 rfl (Keep.cons 15 rfl (Keep.cons 26 rfl (Keep.cons 40 rfl (Keep.cons 74 rfl Keep.nil))))))))))))))))) ?_
        refine at_retH (fun _ hw => hw.tail.tail.tail.tail.tail.tail.tail.tail.tail) Try.func7 (res1 rfl rfl) ?_
        exact ⟨rfl, rfl⟩
  · intro h3_3
    refine wl_read rfl rfl rfl (yl_move rfl rfl) ?_
    refine wl_skip rfl rfl rfl ?_
    refine wl_skip rfl rfl rfl ?_
    refine wl_read rfl rfl rfl (yl_pickF rfl rfl rfl) ?_
    refine wl_nil ?_
    refine at_keep (Keep.cons 0 rfl (Keep.cons 1 rfl (Keep.cons 5 rfl (Keep.cons 6 rfl (Keep.cons 7 rfl (Keep.cons 26 rfl Keep.nil)))))) ?_
    refine at_false rfl ?_
    refine at_exit rfl ?_
    refine at_seq ?_
    have hlen := hs.len
    have hkr := hs.kr
    refine at_region ?_
    refine wl_read rfl rfl rfl (yl_move rfl rfl) ?_
    refine wl_call rfl rfl rfl (en_call rfl rfl) (len_fn s.p s.k g _ _) ?_
    rintro _ _ ⟨rfl, rfl⟩
    refine wl_read rfl rfl rfl (yl_assign rfl rfl) ?_
    refine wl_nil ?_
    refine at_keep (Keep.cons 0 rfl (Keep.cons 1 rfl (Keep.cons 5 rfl (Keep.cons 6 rfl (Keep.cons 7 rfl (Keep.cons 8 rfl (Keep.cons 26 rfl Keep.nil))))))) ?_
    refine at_seq ?_
    refine at_seq ?_
    refine at_region ?_
    refine wl_read rfl rfl rfl (yl_move rfl rfl) ?_
    refine wl_split rfl rfl rfl (yp_eql rfl rfl rfl) ?_ ?_
    · intro h8_1
      refine wl_nil ?_
      refine at_keep (Keep.cons 0 rfl (Keep.cons 1 rfl (Keep.cons 5 rfl (Keep.cons 6 rfl (Keep.cons 7 rfl (Keep.cons 8 rfl (Keep.cons 26 rfl (Keep.cons 40 rfl Keep.nil)))))))) ?_
      refine at_true rfl ?_
      refine at_seq ?_
      refine at_region ?_
      refine wl_call rfl rfl rfl (en_call rfl rfl) (awake_fn _ _) ?_
      rintro _ _ ⟨rfl, rfl⟩
      refine wl_read rfl rfl rfl (yl_move rfl rfl) ?_
      refine wl_read rfl rfl rfl (yl_move rfl rfl) ?_
      refine wl_call rfl rfl rfl (en_call rfl rfl) (repeat_out s.p s.k g _ _ 0 (by omega)) ?_
      rintro _ _ ⟨rfl, rfl⟩
      refine wl_read rfl rfl rfl ((yp_eql rfl rfl rfl).1 rfl) ?_
      refine wl_read rfl rfl rfl (yl_pickT rfl rfl rfl) ?_
      refine wl_read rfl rfl rfl (yl_assign rfl rfl) ?_
      refine wl_nil ?_
      refine at_keep (Keep.cons 0 rfl (Keep.cons 1 rfl (Keep.cons 4 rfl (Keep.cons 5 rfl (Keep.cons 6 rfl (Keep.cons 7 rfl (Keep.cons 8 rfl (Keep.cons 26 rfl (Keep.cons 40 rfl Keep.nil))))))))) ?_
      refine at_retH (fun _ hw => hw.tail.tail.tail) Try.func7 (res1 rfl rfl) ?_
      exact ⟨rfl, rfl⟩
    · intro h8_1
      refine wl_nil ?_
      refine at_keep (Keep.cons 0 rfl (Keep.cons 1 rfl (Keep.cons 5 rfl (Keep.cons 6 rfl (Keep.cons 7 rfl (Keep.cons 8 rfl (Keep.cons 26 rfl (Keep.cons 40 rfl Keep.nil)))))))) ?_
      refine at_false rfl ?_
      refine at_skip ?_
      refine at_seq ?_
      refine at_region ?_
      refine wl_read rfl rfl rfl (yl_move rfl rfl) ?_
      refine wl_read rfl rfl rfl (yl_move rfl rfl) ?_
      refine wl_call rfl rfl rfl (en_call rfl rfl) (mod_fn _ _ _ _ (by omega) (by omega)) ?_
      rintro _ _ ⟨rfl, rfl⟩
      refine wl_read rfl rfl rfl (yl_assign rfl rfl) ?_
      refine wl_nil ?_
      refine at_keep (Keep.cons 0 rfl (Keep.cons 1 rfl (Keep.cons 5 rfl (Keep.cons 6 rfl (Keep.cons 7 rfl (Keep.cons 8 rfl (Keep.cons 9 rfl (Keep.cons 26 rfl (Keep.cons 40 rfl Keep.nil))))))))) ?_
      refine at_seq ?_
      have hmd := md_bd at' (s.p.length : Int) (by omega)
      obtain ⟨i0, hi0⟩ : ∃ i0 : Nat, md at' (s.p.length : Int) = (i0 : Int) := ⟨_, (Int.toNat_of_nonneg hmd.1).symm⟩
      rw [hi0]
      have hil : i0 < s.p.length := by omega
      have hsz0 := hs.szp _ (at_in hil)
      refine at_region ?_
      refine wl_read rfl rfl rfl (yl_move rfl rfl) ?_
      refine wl_read rfl rfl rfl (yl_move rfl rfl) ?_
      refine wl_call rfl rfl rfl (en_call rfl rfl) (at_cl s.p s.k g i0 _ _ (okP hs (by omega) 1 rfl) hil) ?_
      rintro _ _ ⟨A1, c1, rfl, rfl⟩
      refine wl_read rfl rfl rfl (yl_move rfl rfl) ?_
      refine wl_read rfl rfl rfl (yl_extract rfl rfl rfl) ?_
      refine wl_read rfl rfl rfl (yl_extract rfl rfl rfl) ?_
      refine wl_eff rfl rfl rfl (ef_alloc (cs := [.int .i64 0, .int .i64 0, .slice none 0 0]) (z := .agg #[.int .i64 0, .int .i64 0, .slice none 0 0]) rfl (by kernel_rfl) rfl) ?_
      rintro _ _ ⟨g1, rfl, rfl⟩
      refine wl_store rfl rfl (es_at0 (es_storeN 0 rfl rfl rfl rfl (by kernel_rfl) rfl rfl)) ?_
      refine wl_read rfl rfl rfl (yl_assign rfl rfl) ?_
      refine wl_nil ?_
      refine at_keep (Keep.cons 0 rfl (Keep.cons 1 rfl (Keep.cons 5 rfl (Keep.cons 6 rfl (Keep.cons 7 rfl (Keep.cons 8 rfl (Keep.cons 9 rfl (Keep.cons 10 rfl (Keep.cons 11 rfl (Keep.cons 26 rfl (Keep.cons 40 rfl Keep.nil))))))))))) ?_
      refine at_seq ?_
      refine at_seq ?_
      refine at_region ?_
      refine wl_call rfl rfl rfl (en_call rfl rfl) (awake_fn _ _) ?_
      rintro _ _ ⟨rfl, rfl⟩
      refine wl_read rfl rfl rfl (yl_notT rfl rfl) ?_
      refine wl_read rfl rfl rfl (yl_move rfl rfl) ?_
      refine wl_read rfl rfl rfl (yl_move rfl rfl) ?_
      refine wl_read rfl rfl rfl (yl_notT rfl rfl) ?_
      refine wl_read rfl rfl rfl (yl_pickF rfl rfl rfl) ?_
      refine wl_read rfl rfl rfl (yl_move rfl rfl) ?_
      refine wl_read rfl rfl rfl (yl_move rfl rfl) ?_
      refine wl_read rfl rfl rfl (yl_move rfl rfl) ?_
      refine wl_heap (fun _ hw => hw.front2) ?_
      refine wl_call rfl rfl rfl (en_call rfl rfl) (repeat_fn s.p s.k g _ _ i0 (okP hs (by omega) 3 rfl) hil (by omega) (by omega)) ?_
      rintro _ _ ⟨A2, c2, rfl, rfl⟩
      refine wl_read rfl rfl rfl ((yp_neq rfl rfl rfl).2 (by simp)) ?_
      refine wl_read rfl rfl rfl (yl_pickF rfl rfl rfl) ?_
      refine wl_read rfl rfl rfl (yl_move rfl rfl) ?_
      refine wl_read rfl rfl rfl (yl_move rfl rfl) ?_
      refine wl_heap (fun _ hw => hw.front1) ?_
      refine wl_call rfl rfl rfl (en_call rfl rfl) (len_fn (s.p ++ [(at_ s.p i0).cp A2 c2]) { s.k with rep := s.k.rep + 1 } g _ _) ?_
      rintro _ _ ⟨rfl, rfl⟩
      refine wl_read rfl rfl rfl (yl_move rfl rfl) ?_
      refine wl_read rfl rfl rfl (yl_add rfl rfl rfl (w64 (by omega) (by omega))) ?_
      refine wl_read rfl rfl rfl ((yp_neq rfl rfl rfl).2 (by simp)) ?_
      refine wl_read rfl rfl rfl (yl_pickF rfl rfl rfl) ?_
      refine wl_nil ?_
      refine at_keep (Keep.cons 0 rfl (Keep.cons 1 rfl (Keep.cons 5 rfl (Keep.cons 6 rfl (Keep.cons 7 rfl (Keep.cons 8 rfl (Keep.cons 9 rfl (Keep.cons 10 rfl (Keep.cons 11 rfl (Keep.cons 26 rfl (Keep.cons 40 rfl (Keep.cons 74 rfl Keep.nil)))))))))))) ?_
      refine at_false rfl ?_
      refine at_skip ?_
      refine at_seq ?_
      refine at_heap (fun _ hw => hw.front5.front2) ?_
      refine at_heap (fun _ hw => hw.poolIn) ?_
      have hin2 : ∀ m, m ∈ (s.p ++ [(at_ s.p i0).cp A2 c2]) → m.mem ∈ (⟨A2, c2, (at_ s.p i0).bs⟩ : Mem UInt8) :: s.pl := in_add hs.inp rfl
      have hsz2 : ∀ m, m ∈ (s.p ++ [(at_ s.p i0).cp A2 c2]) → m.bs.length ≤ 1000 := sz_add hs.szp hsz0
      have hl2 : (s.p ++ [(at_ s.p i0).cp A2 c2]).length = s.p.length + 1 := by simp
      have he1 : at_ (s.p ++ [(at_ s.p i0).cp A2 c2]) i0 = at_ s.p i0 := at_app_left hil
      have he2 : at_ (s.p ++ [(at_ s.p i0).cp A2 c2]) s.p.length = (at_ s.p i0).cp A2 c2 := at_app_last _ _
      refine at_region ?_
      refine wl_read rfl rfl rfl (yl_move rfl rfl) ?_
      refine wl_read rfl rfl rfl (yl_move rfl rfl) ?_
      refine wl_heap (fun _ hw => hw.front1) ?_
      refine wl_call rfl rfl rfl (en_call rfl rfl) (at_cl (s.p ++ [(at_ s.p i0).cp A2 c2]) { s.k with rep := s.k.rep + 1 } g i0 _ _ (okpl hin2 hsz2 (by omega) 0 rfl) (by omega)) ?_
      rintro _ _ ⟨A3, c3, rfl, rfl⟩
      rw [he1]
      refine wl_read rfl rfl rfl (yl_move rfl rfl) ?_
      refine wl_read rfl rfl rfl (yl_extract rfl rfl rfl) ?_
      refine wl_read rfl rfl rfl (yl_extract rfl rfl rfl) ?_
      refine wl_eff rfl rfl rfl (ef_alloc (cs := [.int .i64 0, .int .i64 0, .slice none 0 0]) (z := .agg #[.int .i64 0, .int .i64 0, .slice none 0 0]) rfl (by kernel_rfl) rfl) ?_
      rintro _ _ ⟨g3, rfl, rfl⟩
      refine wl_store rfl rfl (es_at0 (es_storeN 0 rfl rfl rfl rfl (by kernel_rfl) rfl rfl)) ?_
      refine wl_read rfl rfl rfl (yl_assign rfl rfl) ?_
      refine wl_nil ?_
      refine at_keep (Keep.cons 0 rfl (Keep.cons 1 rfl (Keep.cons 5 rfl (Keep.cons 6 rfl (Keep.cons 7 rfl (Keep.cons 8 rfl (Keep.cons 9 rfl (Keep.cons 10 rfl (Keep.cons 11 rfl (Keep.cons 12 rfl (Keep.cons 13 rfl (Keep.cons 26 rfl (Keep.cons 40 rfl (Keep.cons 74 rfl Keep.nil)))))))))))))) ?_
      refine at_seq ?_
      refine at_region ?_
      refine wl_read rfl rfl rfl (yl_move rfl rfl) ?_
      refine wl_read rfl rfl rfl (yl_move rfl rfl) ?_
      refine wl_heap (fun _ hw => hw.front2) ?_
      refine wl_call rfl rfl rfl (en_call rfl rfl) (at_cl (s.p ++ [(at_ s.p i0).cp A2 c2]) { s.k with rep := s.k.rep + 1 } g s.p.length _ _ (okpl hin2 hsz2 (by omega) 2 rfl) (by omega)) ?_
      rintro _ _ ⟨A4, c4, rfl, rfl⟩
      rw [he2]
      refine wl_read rfl rfl rfl (yl_move rfl rfl) ?_
      refine wl_read rfl rfl rfl (yl_extract rfl rfl rfl) ?_
      refine wl_read rfl rfl rfl (yl_extract rfl rfl rfl) ?_
      refine wl_eff rfl rfl rfl (ef_alloc (cs := [.int .i64 0, .int .i64 0, .slice none 0 0]) (z := .agg #[.int .i64 0, .int .i64 0, .slice none 0 0]) rfl (by kernel_rfl) rfl) ?_
      rintro _ _ ⟨g4, rfl, rfl⟩
      refine wl_store rfl rfl (es_at0 (es_storeN 0 rfl rfl rfl rfl (by kernel_rfl) rfl rfl)) ?_
      refine wl_read rfl rfl rfl (yl_assign rfl rfl) ?_
      refine wl_nil ?_
      refine at_keep (Keep.cons 0 rfl (Keep.cons 1 rfl (Keep.cons 5 rfl (Keep.cons 6 rfl (Keep.cons 7 rfl (Keep.cons 8 rfl (Keep.cons 9 rfl (Keep.cons 10 rfl (Keep.cons 11 rfl (Keep.cons 12 rfl (Keep.cons 13 rfl (Keep.cons 14 rfl (Keep.cons 15 rfl (Keep.cons 26 rfl (Keep.cons 40 rfl (Keep.cons 74 rfl Keep.nil)))))))))))))))) ?_
      refine at_seq ?_
      refine at_region ?_
      refine wl_read rfl rfl rfl (yl_move rfl rfl) ?_
      refine wl_read rfl rfl rfl (yl_move rfl rfl) ?_
      refine wl_read rfl rfl rfl (yl_move rfl rfl) ?_
      refine wl_read rfl rfl rfl (yl_pickT rfl rfl rfl) ?_
      refine wl_read rfl rfl rfl (yl_move rfl rfl) ?_
      refine wl_read rfl rfl rfl (yl_loadBk 6 rfl rfl rfl Try.underlying33 rfl (by kernel_rfl)) ?_
      refine wl_read rfl rfl rfl (yl_loadBk 3 rfl rfl rfl Try.underlying33 rfl (by kernel_rfl)) ?_
      refine wl_call rfl rfl rfl (en_call rfl rfl) (message_fn ((at_ s.p i0).cp A1 c1) ((at_ s.p i0).cp A3 c3) _ _ (Rd.of_sl (xs := (at_ s.p i0).bs) 7 rfl) (Rd.of_sl (xs := (at_ s.p i0).bs) 4 rfl)) ?_
      rintro _ _ ⟨rfl, rfl⟩
      rw [decide_eq_true (show ((at_ s.p i0).cp A1 c1).abs = ((at_ s.p i0).cp A3 c3).abs from rfl)]
      refine wl_read rfl rfl rfl (yl_pickT rfl rfl rfl) ?_
      refine wl_read rfl rfl rfl (yl_move rfl rfl) ?_
      refine wl_read rfl rfl rfl (yl_loadBk 6 rfl rfl rfl Try.underlying33 rfl (by kernel_rfl)) ?_
      refine wl_read rfl rfl rfl (yl_loadBk 0 rfl rfl rfl Try.underlying33 rfl (by kernel_rfl)) ?_
      refine wl_call rfl rfl rfl (en_call rfl rfl) (message_fn ((at_ s.p i0).cp A1 c1) (((at_ s.p i0).cp A2 c2).cp A4 c4) _ _ (Rd.of_sl (xs := (at_ s.p i0).bs) 7 rfl) (Rd.of_sl (xs := (at_ s.p i0).bs) 1 rfl)) ?_
      rintro _ _ ⟨rfl, rfl⟩
      rw [decide_eq_true (show ((at_ s.p i0).cp A1 c1).abs = (((at_ s.p i0).cp A2 c2).cp A4 c4).abs from rfl)]
      refine wl_read rfl rfl rfl (yl_pickT rfl rfl rfl) ?_
      refine wl_read rfl rfl rfl (yl_move rfl rfl) ?_
      refine wl_read rfl rfl rfl (yl_move rfl rfl) ?_
      refine wl_read rfl rfl rfl (yl_move rfl rfl) ?_
      refine wl_read rfl rfl rfl (yl_add rfl rfl rfl (w64 (by omega) (by omega))) ?_
      refine wl_heap (fun _ hw => hw.front2) ?_
      refine wl_call rfl rfl rfl (en_call rfl rfl) (repeat_out (s.p ++ [(at_ s.p i0).cp A2 c2]) { s.k with rep := s.k.rep + 1 } g _ _ _ (by omega)) ?_
      rintro _ _ ⟨rfl, rfl⟩
      refine wl_read rfl rfl rfl ((yp_eql rfl rfl rfl).1 rfl) ?_
      refine wl_read rfl rfl rfl (yl_pickT rfl rfl rfl) ?_
      refine wl_read rfl rfl rfl (yl_move rfl rfl) ?_
      refine wl_read rfl rfl rfl (yl_move rfl rfl) ?_
      refine wl_call rfl rfl rfl (en_call rfl rfl) (repeat_out (s.p ++ [(at_ s.p i0).cp A2 c2]) { s.k with rep := s.k.rep + 1 } g _ _ _ (by omega)) ?_
      rintro _ _ ⟨rfl, rfl⟩
      refine wl_read rfl rfl rfl ((yp_eql rfl rfl rfl).1 rfl) ?_
      refine wl_read rfl rfl rfl (yl_pickT rfl rfl rfl) ?_
      refine wl_read rfl rfl rfl (yl_assign rfl rfl) ?_
      refine wl_nil ?_
      refine at_keep (Keep.cons 0 rfl (Keep.cons 1 rfl (Keep.cons 4 rfl (Keep.cons 5 rfl (Keep.cons 6 rfl (Keep.cons 7 rfl (Keep.cons 8 rfl (Keep.cons 9 rfl (Keep.cons 10 rfl (Keep.cons 11 rfl (Keep.cons 12 rfl (Keep.cons 13 rfl (Keep.cons 14 rfl (Keep.cons 15 rfl (Keep.cons 26 rfl (Keep.cons 40 rfl (Keep.cons 74 rfl Keep.nil))))))))))))))))) ?_
      refine at_retH (fun _ hw => hw.tail.tail.tail.tail.tail.tail.tail.tail.tail) Try.func7 (res1 rfl rfl) ?_
      exact ⟨rfl, rfl⟩
theorem law8 (at' : Int) (b : World) (H : List Asr) : Fn Try.prog 8 [.int .i64 at'] b H (fun v H' => v = .bool true ∧ H = H') := by
  have oj : ∀ x : UInt8, okS 0 1 [x] := fun x => ⟨by decide, by decide, by decide, by simp, by simp⟩
  have hmd := md_bd at' 500 (by decide)
  obtain ⟨i0, hi0⟩ : ∃ i0 : Nat, md at' 500 = (i0 : Int) := ⟨_, (Int.toNat_of_nonneg hmd.1).symm⟩
  refine fn_of_at (by kernel_rfl) Try.func8 rfl Try.ntmps8 rfl rfl ?_
  refine at_seq ?_
  refine at_region ?_
  refine wl_read rfl rfl rfl (yl_assign rfl rfl) ?_
  refine wl_nil ?_
  refine at_keep (Keep.cons 0 rfl (Keep.cons 2 rfl Keep.nil)) ?_
  refine at_seq ?_
  refine at_region ?_
  refine wl_call rfl rfl rfl (en_call rfl rfl) (new_fn _ _) ?_
  rintro _ _ ⟨g, rfl, rfl⟩
  refine wl_read rfl rfl rfl (yl_assign rfl rfl) ?_
  refine wl_nil ?_
  refine at_keep (Keep.cons 0 rfl (Keep.cons 2 rfl (Keep.cons 3 rfl Keep.nil))) ?_
  refine at_seq ?_
  refine at_seq ?_
  refine at_region ?_
  refine wl_read rfl rfl rfl (yl_assign rfl rfl) ?_
  refine wl_nil ?_
  refine at_keep (Keep.cons 0 rfl (Keep.cons 2 rfl (Keep.cons 3 rfl (Keep.cons 4 rfl Keep.nil)))) ?_
  refine at_block ?_
  refine at_keep (L' := (fun (j : Nat) (ms : List Msg) (pl : List (Mem UInt8)) => [(0, .int .i64 at'), (3, .pointer (some ⟨g, 0, none⟩)), (4, .int .i64 (j : Int))]) 0 [] []) (Keep.consEq 0 rfl rfl (Keep.consEq 3 rfl rfl (Keep.consEq 4 rfl rfl Keep.nil))) ?_
  refine at_heap (fun _ hw => (hw.poolNil (α := UInt8)).front1) ?_
  refine at_loop3 (fun (j : Nat) (ms : List Msg) (pl : List (Mem UInt8)) => ms.length = j ∧ j ≤ 500 ∧ (∀ m, m ∈ ms → m.mem ∈ pl) ∧ (∀ m, m ∈ ms → m.bs.length ≤ 1000)) (fun (j : Nat) (ms : List Msg) (pl : List (Mem UInt8)) => [(0, .int .i64 at'), (3, .pointer (some ⟨g, 0, none⟩)), (4, .int .i64 (j : Int))]) (fun (j : Nat) (ms : List Msg) (pl : List (Mem UInt8)) => Chn 58 g ms (⟨(j : Int), 0, 0, 0⟩ : Cts) :: Pool pl :: H) (fun (j : Nat) (ms : List Msg) (pl : List (Mem UInt8)) => 500 - j) 0 [] [] ⟨rfl, by omega, by simp, by simp⟩ ?_
  intro j ms pl hI ih
  obtain ⟨hml, hj5, hin, hsz⟩ := hI
  refine at_seq ?_
  refine at_seq ?_
  refine at_region ?_
  refine wl_read rfl rfl rfl (yl_move rfl rfl) ?_
  refine wl_split rfl rfl rfl (yp_lss rfl rfl rfl) ?_ ?_
  · intro h3_1
    refine wl_nil ?_
    refine at_keep (Keep.cons 0 rfl (Keep.cons 3 rfl (Keep.cons 4 rfl (Keep.cons 8 rfl Keep.nil)))) ?_
    refine at_true rfl ?_
    refine at_skip ?_
    refine at_seq ?_
    refine at_block ?_
    refine at_seq ?_
    refine at_region ?_
    refine wl_read rfl rfl rfl (yl_move rfl rfl) ?_
    refine wl_read rfl rfl rfl (yl_move rfl rfl) ?_
    refine wl_read rfl rfl rfl (yl_conv rfl rfl rfl Try.underlying5 (wrapu8 j)) ?_
    refine wl_eff rfl rfl rfl (ef_buildSlice (e := 5) [UInt8.ofNat j] rfl rfl (fun _ => by kernel_rfl) rfl rfl) ?_
    rintro _ _ ⟨T5_3, rfl, rfl⟩
    refine wl_heap (fun _ hw => hw.front1) ?_
    refine wl_call rfl rfl rfl (en_call rfl rfl) (send_fn ms (⟨(j : Int), 0, 0, 0⟩ : Cts) g _ _ 0 1 [UInt8.ofNat j] _ _ (oj _) (by omega) (by simp; omega) (Rd.of_sl 0 rfl)) ?_
    rintro _ _ ⟨A1, c1, rfl, rfl⟩
    refine wl_read rfl rfl rfl ((yp_neq rfl rfl rfl).2 (by simp)) ?_
    refine wl_nil ?_
    refine at_keep (Keep.cons 0 rfl (Keep.cons 3 rfl (Keep.cons 4 rfl (Keep.cons 8 rfl (Keep.cons 16 rfl Keep.nil))))) ?_
    refine at_false rfl ?_
    refine at_skip ?_
    refine at_inBlock ?_
    refine at_heap (fun _ hw => hw.front2.tail) ?_
    refine at_heap (fun _ hw => hw.front2.front2) ?_
    refine at_heap (fun _ hw => hw.front1.front2) ?_
    refine at_heap (fun _ hw => hw.poolIn) ?_
    refine at_heap (fun _ hw => hw.front1) ?_
    refine at_region ?_
    refine wl_read rfl rfl rfl (yl_move rfl rfl) ?_
    refine wl_read rfl rfl rfl (yl_add rfl rfl rfl (w64 (by omega) (by omega))) ?_
    refine wl_read rfl rfl rfl (yl_assign rfl rfl) ?_
    refine wl_nil ?_
    refine at_keep (Keep.cons 0 rfl (Keep.cons 3 rfl (Keep.cons 4 rfl (Keep.cons 8 rfl (Keep.cons 16 rfl Keep.nil))))) ?_
    exact at_keep (L' := (fun (j : Nat) (ms : List Msg) (pl : List (Mem UInt8)) => [(0, .int .i64 at'), (3, .pointer (some ⟨g, 0, none⟩)), (4, .int .i64 (j : Int))]) (j + 1) (ms ++ [⟨0, 1, A1, c1, [UInt8.ofNat j]⟩]) (⟨A1, c1, [UInt8.ofNat j]⟩ :: pl)) (Keep.consEq 0 rfl rfl (Keep.consEq 3 rfl rfl (Keep.consEq 4 rfl rfl Keep.nil))) (ih (j + 1) (ms ++ [⟨0, 1, A1, c1, [UInt8.ofNat j]⟩]) (⟨A1, c1, [UInt8.ofNat j]⟩ :: pl) ⟨by simp [hml], by omega, in_add hin rfl, sz_add hsz (by simp)⟩ (by omega))
  · intro h3_1
    refine wl_nil ?_
    refine at_keep (Keep.cons 0 rfl (Keep.cons 3 rfl (Keep.cons 4 rfl (Keep.cons 8 rfl Keep.nil)))) ?_
    refine at_false rfl ?_
    refine at_exit rfl ?_
    refine at_seq ?_
    obtain rfl : j = 500 := by omega
    have hel : (ms.eraseIdx i0).length = 499 := by rw [List.length_eraseIdx, if_pos (by omega), hml]
    have hin2 : ∀ m, m ∈ ms.eraseIdx i0 → m.mem ∈ pl := fun m hm => hin m (List.mem_of_mem_eraseIdx hm)
    have hsz2 : ∀ m, m ∈ ms.eraseIdx i0 → m.bs.length ≤ 1000 := fun m hm => hsz m (List.mem_of_mem_eraseIdx hm)
    refine at_region ?_
    refine wl_read rfl rfl rfl (yl_move rfl rfl) ?_
    refine wl_call rfl rfl rfl (en_call rfl rfl) (mod_fn _ _ _ _ (by decide) (by decide)) ?_
    rintro _ _ ⟨rfl, rfl⟩
    refine wl_read rfl rfl rfl (yl_assign rfl rfl) ?_
    refine wl_nil ?_
    refine at_keep (Keep.cons 0 rfl (Keep.cons 3 rfl (Keep.cons 4 rfl (Keep.cons 5 rfl (Keep.cons 8 rfl Keep.nil))))) ?_
    refine at_seq ?_
    refine at_seq ?_
    rw [hi0]
    refine at_region ?_
    refine wl_call rfl rfl rfl (en_call rfl rfl) (awake_fn _ _) ?_
    rintro _ _ ⟨rfl, rfl⟩
    refine wl_read rfl rfl rfl (yl_notT rfl rfl) ?_
    refine wl_read rfl rfl rfl (yl_move rfl rfl) ?_
    refine wl_read rfl rfl rfl (yl_move rfl rfl) ?_
    refine wl_eff rfl rfl rfl (ef_buildSlice (e := 5) [(1 : UInt8)] rfl rfl (fun _ => by kernel_rfl) rfl rfl) ?_
    rintro _ _ ⟨T8_4, rfl, rfl⟩
    refine wl_heap (fun _ hw => hw.front1) ?_
    refine wl_call rfl rfl rfl (en_call rfl rfl) (send_full ms _ g _ _ 0 1 [(1 : UInt8)] _ _ (oj _) (by omega)) ?_
    rintro _ _ ⟨rfl, rfl⟩
    refine wl_read rfl rfl rfl ((yp_neq rfl rfl rfl).2 (by simp)) ?_
    refine wl_read rfl rfl rfl (yl_pickF rfl rfl rfl) ?_
    refine wl_read rfl rfl rfl (yl_move rfl rfl) ?_
    refine wl_read rfl rfl rfl (yl_move rfl rfl) ?_
    refine wl_read rfl rfl rfl (yl_move rfl rfl) ?_
    refine wl_call rfl rfl rfl (en_call rfl rfl) (repeat_full ms _ g _ _ i0 (okpl hin hsz (by omega) 1 rfl) (by omega) (by omega)) ?_
    rintro _ _ ⟨rfl, rfl⟩
    refine wl_read rfl rfl rfl ((yp_neq rfl rfl rfl).2 (by simp)) ?_
    refine wl_read rfl rfl rfl (yl_pickF rfl rfl rfl) ?_
    refine wl_read rfl rfl rfl (yl_move rfl rfl) ?_
    refine wl_read rfl rfl rfl (yl_move rfl rfl) ?_
    refine wl_call rfl rfl rfl (en_call rfl rfl) (len_fn ms _ g _ _) ?_
    rintro _ _ ⟨rfl, rfl⟩
    refine wl_read rfl rfl rfl ((yp_neq rfl rfl rfl).2 (by omega)) ?_
    refine wl_read rfl rfl rfl (yl_pickF rfl rfl rfl) ?_
    refine wl_nil ?_
    refine at_keep (Keep.cons 0 rfl (Keep.cons 3 rfl (Keep.cons 4 rfl (Keep.cons 5 rfl (Keep.cons 8 rfl (Keep.cons 37 rfl Keep.nil)))))) ?_
    refine at_false rfl ?_
    refine at_skip ?_
    refine at_seq ?_
    refine at_region ?_
    refine wl_read rfl rfl rfl (yl_move rfl rfl) ?_
    refine wl_read rfl rfl rfl (yl_move rfl rfl) ?_
    refine wl_call rfl rfl rfl (en_call rfl rfl) (lose_fn ms _ g _ _ i0 (okpl hin hsz (by omega) 1 rfl) (by omega) (by decide)) ?_
    rintro _ _ ⟨rfl, rfl⟩
    refine wl_read rfl rfl rfl (yl_move rfl rfl) ?_
    refine wl_read rfl rfl rfl (yl_move rfl rfl) ?_
    refine wl_call rfl rfl rfl (en_call rfl rfl) (repeat_fn (ms.eraseIdx i0) _ g _ _ 0 (okpl hin2 hsz2 (by omega) 1 rfl) (by omega) (by omega) (by decide)) ?_
    rintro _ _ ⟨A2, c2, rfl, rfl⟩
    refine wl_read rfl rfl rfl ((yp_eql rfl rfl rfl).1 rfl) ?_
    refine wl_read rfl rfl rfl (yl_pickT rfl rfl rfl) ?_
    refine wl_read rfl rfl rfl (yl_move rfl rfl) ?_
    refine wl_read rfl rfl rfl (yl_move rfl rfl) ?_
    refine wl_heap (fun _ hw => hw.front1) ?_
    refine wl_call rfl rfl rfl (en_call rfl rfl) (len_fn _ _ g _ _) ?_
    rintro _ _ ⟨rfl, rfl⟩
    refine wl_read rfl rfl rfl ((yp_eql rfl rfl rfl).1 (by simp [hel])) ?_
    refine wl_read rfl rfl rfl (yl_pickT rfl rfl rfl) ?_
    refine wl_read rfl rfl rfl (yl_assign rfl rfl) ?_
    refine wl_nil ?_
    refine at_keep (Keep.cons 0 rfl (Keep.cons 2 rfl (Keep.cons 3 rfl (Keep.cons 4 rfl (Keep.cons 5 rfl (Keep.cons 8 rfl (Keep.cons 37 rfl Keep.nil))))))) ?_
    refine at_retH (fun _ hw => hw.tail.tail.tail.tail) Try.func8 (res1 rfl rfl) ?_
    exact ⟨rfl, rfl⟩
end Go.Proofs.Ytcpcgllkdpfacaa

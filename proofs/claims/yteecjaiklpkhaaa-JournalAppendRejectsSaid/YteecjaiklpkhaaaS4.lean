/- Walks of the laws on rejected records and on copies. -/
import Derived.Test.YteecjaiklpkhaaaS2
namespace Go.Proofs.Yteecjaiklpkhaaa
open Go

theorem infoz5 : (Try.prog.info? 5).map (fun i => (i.zero, i.size)) = some (some (.int .u8 0), Enc.size UInt8) := by kernel_rfl
theorem byt5 : ∀ i, Try.prog.info? 5 = some i → i.bytes ≤ 100 := by
  intro i hi
  have h : (Try.prog.info? 5).map (fun i => i.bytes) = some 1 := by kernel_rfl
  rw [hi] at h
  simp at h; omega

theorem law11 (l : List (Mem UInt8)) (A : Option Addr) (c : Nat) (by' : Int) (b : World) (H : List Asr) (hR : Rd H A l) (hE : ∀ m, m ∈ l → Rd H m.A m.xs) : Fn Try.prog 11 [.slice A l.length c, .int .i64 by'] b H (fun v H' => v = .bool true ∧ H = H') := by
  have hm := md_bd by' 300 (by decide)
  obtain ⟨n, hn⟩ : ∃ n : Nat, 401 + md by' 300 = (n : Int) := ⟨_, (Int.toNat_of_nonneg (by omega)).symm⟩
  refine fn_of_at (by kernel_rfl) Try.func11 rfl Try.ntmps11 rfl rfl ?_
  refine at_seq ?_
  refine at_region ?_
  refine wl_read rfl rfl rfl (yl_assign rfl rfl) ?_
  refine wl_nil ?_
  refine at_keep (Keep.cons 0 rfl (Keep.cons 1 rfl (Keep.cons 4 rfl Keep.nil))) ?_
  refine at_seq ?_
  refine at_region ?_
  refine wl_read rfl rfl rfl (yl_move rfl rfl) ?_
  refine wl_call rfl rfl rfl (en_call rfl rfl) (fill_fn l A c ([] : List Bool) none 0 _ _ hR (fun m hm => (hE m hm)) Rd.nil) ?_
  rintro _ _ ⟨g, r, s, hs, rfl, rfl⟩
  refine wl_read rfl rfl rfl (yl_move rfl rfl) ?_
  refine wl_read rfl rfl rfl (yl_extract rfl rfl rfl) ?_
  refine wl_read rfl rfl rfl (yl_extract rfl rfl rfl) ?_
  refine wl_read rfl rfl rfl (yl_extract rfl rfl rfl) ?_
  refine wl_read rfl rfl rfl (yl_assign rfl rfl) ?_
  refine wl_read rfl rfl rfl (yl_assign rfl rfl) ?_
  refine wl_read rfl rfl rfl (yl_assign rfl rfl) ?_
  refine wl_nil ?_
  refine at_keep (Keep.cons 0 rfl (Keep.cons 1 rfl (Keep.cons 4 rfl (Keep.cons 5 rfl (Keep.cons 6 rfl (Keep.cons 7 rfl Keep.nil)))))) ?_
  refine at_seq ?_
  have hby := hs.bytes
  have hfl := hs.flle
  have hlen := hs.len
  have hlw := hs.lenw
  refine at_region ?_
  refine wl_read rfl rfl rfl (yl_move rfl rfl) ?_
  refine wl_call rfl rfl rfl (en_call rfl rfl) (mod_fn _ _ _ _ (by decide) (by decide)) ?_
  rintro _ _ ⟨rfl, rfl⟩
  refine wl_read rfl rfl rfl (yl_add (r := (n : Int)) rfl rfl rfl (by rw [← hn, w64 (by omega) (by omega)])) ?_
  refine wl_read rfl rfl rfl (yl_assign rfl rfl) ?_
  refine wl_nil ?_
  refine at_keep (Keep.cons 0 rfl (Keep.cons 1 rfl (Keep.cons 4 rfl (Keep.cons 5 rfl (Keep.cons 6 rfl (Keep.cons 7 rfl (Keep.cons 8 rfl Keep.nil))))))) ?_
  refine at_seq ?_
  refine at_heap (fun _ hw => hw.front2.front2.front2) ?_
  refine at_draw3 (.ef 0 (.fl 1 (.fl 2 (.fl 3 (.fl 4 (.fl 5 (.ef 6 (.fl 7 (.fl 8 (.fl 9 (.fl 10 (.fl 11 (.ef 12 (.ef 13 (.fl 14 (.fl 15 (.fl 16 (.fl 17 (.fl 18 (.ef 19 (.fl 20 (.fl 21 (.fl 22 (.ef 23 (.ef 24 (.fl 25 (.fl 26 (.fl 27 (.fl 28 (.fl 30 (.fl 31 (.fl 32 (.ef2 29 (.ef 33 (.fl 34 (.fl 35 (.fl 36 (.fl 37 (.fl 38 .nil)))))) 33 (.fl 34 (.fl 35 (.ef 29 (.fl 36 (.fl 37 (.fl 38 .nil))))))))))))))))))))))))))))))))))))))) (by kernel_rfl) (by kernel_rfl) ?_
  refine wt_call rfl rfl rfl rfl (en_call rfl rfl) (awake_fn _ _) ?_
  rintro _ _ ⟨rfl, rfl⟩
  refine ⟨⟨[_, _, _], rfl⟩, ?_⟩
  refine wt_read rfl rfl rfl rfl (yl_move rfl rfl) ?_
  refine wt_read rfl rfl rfl rfl (yl_move rfl rfl) ?_
  refine wt_read rfl rfl rfl rfl (yl_pickT rfl rfl rfl) ?_
  refine wt_read rfl rfl rfl rfl (yl_move rfl rfl) ?_
  refine wt_read rfl rfl rfl rfl (yl_move rfl rfl) ?_
  refine wt_call rfl rfl rfl rfl (en_call rfl rfl) (append_bad s.rs s.fl g _ _ ([] : List UInt8) none 0 (by decide)) ?_
  rintro _ _ ⟨rfl, rfl⟩
  refine ⟨⟨[_, _, _], rfl⟩, ?_⟩
  refine wt_read rfl rfl rfl rfl ((yp_eql rfl rfl rfl).1 rfl) ?_
  refine wt_read rfl rfl rfl rfl (yl_pickT rfl rfl rfl) ?_
  refine wt_read rfl rfl rfl rfl (yl_move rfl rfl) ?_
  refine wt_read rfl rfl rfl rfl (yl_move rfl rfl) ?_
  refine wt_read rfl rfl rfl rfl (yl_move rfl rfl) ?_
  refine wt_eff rfl rfl rfl rfl (ef_make (x := (0 : UInt8)) (List.replicate n (0 : UInt8)) rfl rfl rfl rfl Try.underlying30 infoz5 rfl rfl rfl (by omega) byt5) ?_
  rintro _ _ ⟨Z1, rfl, rfl⟩
  refine ⟨⟨[_, _, _, _], rfl⟩, ?_⟩
  refine wt_heap (fun _ hw => hw.front1) ?_
  refine wt_call rfl rfl rfl rfl (en_call rfl rfl) (append_bad s.rs s.fl g _ _ (List.replicate n (0 : UInt8)) _ _ (fun h => by have := h.2; rw [List.length_replicate] at this; omega)) ?_
  rintro _ _ ⟨rfl, rfl⟩
  refine ⟨⟨[_, _, _, _], rfl⟩, ?_⟩
  refine wt_read rfl rfl rfl rfl ((yp_eql rfl rfl rfl).1 rfl) ?_
  refine wt_read rfl rfl rfl rfl (yl_pickT rfl rfl rfl) ?_
  refine wt_read rfl rfl rfl rfl (yl_move rfl rfl) ?_
  refine wt_read rfl rfl rfl rfl (yl_move rfl rfl) ?_
  refine wt_read rfl rfl rfl rfl (yl_move rfl rfl) ?_
  refine wt_heap (fun _ hw => hw.front3.front3.front2) ?_
  refine wt_call rfl rfl rfl rfl (en_call rfl rfl) (same_fn s.rs s.ws s.pl s.fl g r _ _ hs.eq hs.ok (by have := hs.len; omega) hs.inp) ?_
  rintro _ _ ⟨rfl, rfl⟩
  refine ⟨⟨[_, _, _, _], rfl⟩, ?_⟩
  refine wt_read rfl rfl rfl rfl (yl_pickT rfl rfl rfl) ?_
  refine wt_read rfl rfl rfl rfl (yl_move rfl rfl) ?_
  refine wt_read rfl rfl rfl rfl (yl_move rfl rfl) ?_
  refine wt_eff rfl rfl rfl rfl (ef_make (x := (0 : UInt8)) (List.replicate 400 (0 : UInt8)) rfl rfl rfl rfl Try.underlying30 infoz5 rfl rfl rfl (by decide) byt5) ?_
  rintro _ _ ⟨Z2, rfl, rfl⟩
  refine ⟨⟨[_, _, _, _, _], rfl⟩, ?_⟩
  refine wt_heap (fun _ hw => hw.front1) ?_
  refine wt_call rfl rfl rfl rfl (en_call rfl rfl) (append_fn s.rs s.fl g _ _ (List.replicate 400 (0 : UInt8)) _ _ ⟨by rw [List.length_replicate]; decide, by rw [List.length_replicate]; decide⟩ (by omega) (by omega) (Rd.of_sl 0 rfl)) ?_
  rintro _ _ ⟨rfl, rfl⟩
  refine ⟨⟨[_, _, _, _, _], rfl⟩, ?_⟩
  refine wt_read rfl rfl rfl rfl ((yp_eql rfl rfl rfl).1 rfl) ?_
  refine wt_read rfl rfl rfl rfl (yl_pickT rfl rfl rfl) ?_
  refine wt_read rfl rfl rfl rfl (yl_move rfl rfl) ?_
  refine wt_read rfl rfl rfl rfl (yl_move rfl rfl) ?_
  refine wt_read rfl rfl rfl rfl (yl_move rfl rfl) ?_
  refine wt_read rfl rfl rfl rfl (yl_nilCheck rfl rfl) ?_
  refine wt_read rfl rfl rfl rfl (yl_fieldB rfl rfl Try.underlying50 rfl (by kernel_rfl) rfl) ?_
  refine wt_two ?_ ?_
  ·
    refine wt_call rfl rfl rfl rfl (en_call rfl rfl) (len_fn (s.rs ++ [(List.replicate 400 (0 : UInt8))]) s.fl g _ _) ?_
    rintro _ _ ⟨rfl, rfl⟩
    refine ⟨⟨[_, _, _, _, _], rfl⟩, ?_⟩
    refine wt_heap (fun _ hw => hw.front2) ?_
    refine wt_open (fun _ hw => Rj.opens hw) (fun x => ?_)
    obtain ⟨⟨A5, c5⟩, ⟨A6, c6⟩⟩ := x
    refine wt_readE rfl rfl rfl rfl (yl_load rfl rfl Try.underlying22 rfl (CellAt.bk 0 rfl rfl)) ⟨[_, _, _, _, _, _, _], rfl⟩ ?_
    refine wt_read rfl rfl rfl rfl (yl_len rfl rfl Try.underlying22) ?_
    refine wt_read rfl rfl rfl rfl (yl_add rfl rfl rfl (w64 (by omega) (by omega))) ?_
    refine wt_read rfl rfl rfl rfl ((yp_eql rfl rfl rfl).1 (by rw [List.length_append, List.length_singleton]; omega)) ?_
    refine wt_read rfl rfl rfl rfl (yl_pickT rfl rfl rfl) ?_
    refine wt_read rfl rfl rfl rfl (yl_assign rfl rfl) ?_
    refine wt_nil ?_
    refine at_keep (Keep.cons 0 rfl (Keep.cons 1 rfl (Keep.cons 4 rfl (Keep.cons 5 rfl (Keep.cons 6 rfl (Keep.cons 7 rfl (Keep.cons 8 rfl Keep.nil))))))) ?_
    refine at_retH (fun _ hw => hw.tail.tail.tail.tail.tail.tail.tail) Try.func11 (res1 rfl rfl) ?_
    exact ⟨rfl, rfl⟩
  ·
    refine wt_heap (fun _ hw => hw.front2) ?_
    refine wt_open (fun _ hw => Rj.opens hw) (fun x => ?_)
    obtain ⟨⟨A5, c5⟩, ⟨A6, c6⟩⟩ := x
    refine wt_readE rfl rfl rfl rfl (yl_load rfl rfl Try.underlying22 rfl (CellAt.bk 0 rfl rfl)) ⟨[_, _, _, _, _, _, _], rfl⟩ ?_
    refine wt_read rfl rfl rfl rfl (yl_len rfl rfl Try.underlying22) ?_
    refine wt_read rfl rfl rfl rfl (yl_add rfl rfl rfl (w64 (by omega) (by omega))) ?_
    refine wt_heap (fun _ hw => hw.front3) ?_
    refine wt_call rfl rfl rfl rfl (en_call rfl rfl) (len_fn (s.rs ++ [(List.replicate 400 (0 : UInt8))]) s.fl g _ _) ?_
    rintro _ _ ⟨rfl, rfl⟩
    refine ⟨⟨[_, _, _, _, _, _, _], rfl⟩, ?_⟩
    refine wt_read rfl rfl rfl rfl ((yp_eql rfl rfl rfl).1 (by rw [List.length_append, List.length_singleton]; omega)) ?_
    refine wt_read rfl rfl rfl rfl (yl_pickT rfl rfl rfl) ?_
    refine wt_read rfl rfl rfl rfl (yl_assign rfl rfl) ?_
    refine wt_nil ?_
    refine at_keep (Keep.cons 0 rfl (Keep.cons 1 rfl (Keep.cons 4 rfl (Keep.cons 5 rfl (Keep.cons 6 rfl (Keep.cons 7 rfl (Keep.cons 8 rfl Keep.nil))))))) ?_
    refine at_retH (fun _ hw => hw.tail.tail.tail.tail.tail.tail.tail) Try.func11 (res1 rfl rfl) ?_
    exact ⟨rfl, rfl⟩
theorem law3 (l : List (Mem UInt8)) (A : Option Addr) (c : Nat) (l2 : List (Mem UInt8)) (A3 : Option Addr) (c3 : Nat) (b : World) (H : List Asr) (hR : Rd H A l) (hE : ∀ m, m ∈ l → Rd H m.A m.xs) (hR3 : Rd H A3 l2) (hE3 : ∀ m, m ∈ l2 → Rd H m.A m.xs) : Fn Try.prog 3 [.slice A l.length c, .slice A3 l2.length c3] b H (fun v H' => v = .bool true ∧ H = H') := by
  refine fn_of_at (by kernel_rfl) Try.func3 rfl Try.ntmps3 rfl rfl ?_
  refine at_seq ?_
  refine at_region ?_
  refine wl_read rfl rfl rfl (yl_assign rfl rfl) ?_
  refine wl_nil ?_
  refine at_keep (Keep.cons 0 rfl (Keep.cons 1 rfl (Keep.cons 4 rfl Keep.nil))) ?_
  refine at_seq ?_
  refine at_region ?_
  refine wl_read rfl rfl rfl (yl_move rfl rfl) ?_
  refine wl_call rfl rfl rfl (en_call rfl rfl) (fill_fn l A c ([] : List Bool) none 0 _ _ hR (fun m hm => (hE m hm)) Rd.nil) ?_
  rintro _ _ ⟨g, r, s, hs, rfl, rfl⟩
  refine wl_read rfl rfl rfl (yl_move rfl rfl) ?_
  refine wl_read rfl rfl rfl (yl_extract rfl rfl rfl) ?_
  refine wl_read rfl rfl rfl (yl_extract rfl rfl rfl) ?_
  refine wl_read rfl rfl rfl (yl_extract rfl rfl rfl) ?_
  refine wl_read rfl rfl rfl (yl_assign rfl rfl) ?_
  refine wl_read rfl rfl rfl (yl_assign rfl rfl) ?_
  refine wl_read rfl rfl rfl (yl_assign rfl rfl) ?_
  refine wl_nil ?_
  refine at_keep (Keep.cons 0 rfl (Keep.cons 1 rfl (Keep.cons 4 rfl (Keep.cons 5 rfl (Keep.cons 6 rfl (Keep.cons 7 rfl Keep.nil)))))) ?_
  refine at_seq ?_
  refine at_seq ?_
  refine at_region ?_
  refine wl_read rfl rfl rfl (yl_move rfl rfl) ?_
  refine wl_read rfl rfl rfl (yl_notT rfl rfl) ?_
  refine wl_read rfl rfl rfl (yl_move rfl rfl) ?_
  refine wl_call rfl rfl rfl (en_call rfl rfl) (awake_fn _ _) ?_
  rintro _ _ ⟨rfl, rfl⟩
  refine wl_read rfl rfl rfl (yl_notT rfl rfl) ?_
  refine wl_read rfl rfl rfl (yl_pickF rfl rfl rfl) ?_
  refine wl_nil ?_
  refine at_keep (Keep.cons 0 rfl (Keep.cons 1 rfl (Keep.cons 4 rfl (Keep.cons 5 rfl (Keep.cons 6 rfl (Keep.cons 7 rfl (Keep.cons 24 rfl Keep.nil))))))) ?_
  refine at_false rfl ?_
  refine at_skip ?_
  refine at_seq ?_
  have hby := hs.bytes
  have hfl := hs.flle
  have hlen := hs.len
  refine at_region ?_
  refine wl_read rfl rfl rfl (yl_move rfl rfl) ?_
  refine wl_call rfl rfl rfl (en_call rfl rfl) (fork_fn s.rs s.fl g _ _ (by omega) (by omega)) ?_
  rintro _ _ ⟨g2, rfl, rfl⟩
  refine wl_read rfl rfl rfl (yl_assign rfl rfl) ?_
  refine wl_nil ?_
  refine at_keep (Keep.cons 0 rfl (Keep.cons 1 rfl (Keep.cons 4 rfl (Keep.cons 5 rfl (Keep.cons 6 rfl (Keep.cons 7 rfl (Keep.cons 8 rfl (Keep.cons 24 rfl Keep.nil)))))))) ?_
  refine at_seq ?_
  refine at_seq ?_
  refine at_region ?_
  refine wl_read rfl rfl rfl (yl_move rfl rfl) ?_
  refine wl_read rfl rfl rfl (yl_eqPtr rfl rfl rfl (by kernel_rfl) rfl) ?_
  refine wl_read rfl rfl rfl (yl_move rfl rfl) ?_
  refine wl_read rfl rfl rfl (yl_move rfl rfl) ?_
  refine wl_call rfl rfl rfl (en_call rfl rfl) (bytesJ_fn s.rs s.fl g2 _ _ (by omega)) ?_
  rintro _ _ ⟨A5, c5, rfl, rfl⟩
  refine wl_read rfl rfl rfl (yl_move rfl rfl) ?_
  refine wl_heap (fun _ hw => hw.front2) ?_
  refine wl_call rfl rfl rfl (en_call rfl rfl) (bytesJ_fn s.rs s.fl g _ _ (by omega)) ?_
  rintro _ _ ⟨A6, c6, rfl, rfl⟩
  refine wl_call rfl rfl rfl (en_call rfl rfl) (bytes_fn (jenc s.rs) (jenc s.rs) _ _ _ _ _ _ (Rd.of_sl 2 rfl) (Rd.of_sl 0 rfl)) ?_
  rintro _ _ ⟨rfl, rfl⟩
  rw [decide_eq_true rfl]
  refine wl_read rfl rfl rfl (yl_notT rfl rfl) ?_
  refine wl_read rfl rfl rfl (yl_pickF rfl rfl rfl) ?_
  refine wl_nil ?_
  refine at_keep (Keep.cons 0 rfl (Keep.cons 1 rfl (Keep.cons 4 rfl (Keep.cons 5 rfl (Keep.cons 6 rfl (Keep.cons 7 rfl (Keep.cons 8 rfl (Keep.cons 24 rfl (Keep.cons 36 rfl Keep.nil))))))))) ?_
  refine at_false rfl ?_
  refine at_skip ?_
  refine at_seq ?_
  refine at_seq ?_
  refine at_heap (fun _ hw => hw.front2.tail) ?_
  refine at_heap (fun _ hw => hw.tail) ?_
  refine at_heap (fun _ hw => hw.front3.front3.front2.front3) ?_
  refine at_region ?_
  refine wl_read rfl rfl rfl (yl_assign rfl rfl) ?_
  refine wl_nil ?_
  refine at_keep (Keep.cons 0 rfl (Keep.cons 1 rfl (Keep.cons 4 rfl (Keep.cons 5 rfl (Keep.cons 6 rfl (Keep.cons 7 rfl (Keep.cons 8 rfl (Keep.cons 9 rfl (Keep.cons 24 rfl (Keep.cons 36 rfl Keep.nil)))))))))) ?_
  refine at_block ?_
  refine at_keep (L' := (fun (i : Nat) (rs2 : List (List UInt8)) => [(1, .slice A3 l2.length c3), (5, .pointer (some ⟨g, 0, none⟩)), (6, .pointer (some ⟨r, 0, none⟩)), (8, .pointer (some ⟨g2, 0, none⟩)), (9, .int .i64 (i : Int))]) 0 s.rs) (Keep.consEq 1 rfl rfl (Keep.consEq 5 rfl rfl (Keep.consEq 6 rfl rfl (Keep.consEq 8 rfl rfl (Keep.consEq 9 rfl rfl Keep.nil))))) ?_
  refine at_loop2 (fun (i : Nat) (rs2 : List (List UInt8)) => i ≤ 10 ∧ rs2.length ≤ 30 + i ∧ ∀ r, r ∈ rs2 → okR r) (fun (i : Nat) (rs2 : List (List UInt8)) => [(1, .slice A3 l2.length c3), (5, .pointer (some ⟨g, 0, none⟩)), (6, .pointer (some ⟨r, 0, none⟩)), (8, .pointer (some ⟨g2, 0, none⟩)), (9, .int .i64 (i : Int))]) (fun (i : Nat) (rs2 : List (List UInt8)) => Jn g2 rs2 s.fl :: Jn g s.rs s.fl :: Rj r s.ws s.fl :: Pool s.pl :: H) (fun (i : Nat) (rs2 : List (List UInt8)) => l2.length - i) 0 s.rs ⟨by omega, by omega, hs.ok⟩ ?_
  intro i rs2 hIi ih
  obtain ⟨hI1, hI2, hI3⟩ := hIi
  have hj2 := jenc_le hI3
  refine at_seq ?_
  refine at_seq ?_
  refine at_region ?_
  refine wl_read rfl rfl rfl (yl_move rfl rfl) ?_
  refine wl_read rfl rfl rfl (yl_move rfl rfl) ?_
  refine wl_read rfl rfl rfl (yl_len rfl rfl Try.underlying22) ?_
  refine wl_split rfl rfl rfl (yp_lss rfl rfl rfl) ?_ ?_
  · intro h8_3
    refine wl_read rfl rfl rfl (yl_move rfl rfl) ?_
    refine wl_read rfl rfl rfl (yl_move rfl rfl) ?_
    refine wl_split rfl rfl rfl (yp_lss rfl rfl rfl) ?_ ?_
    · intro h8_6
      refine wl_read rfl rfl rfl (yl_pickT rfl rfl rfl) ?_
      refine wl_nil ?_
      refine at_keep (Keep.cons 1 rfl (Keep.cons 5 rfl (Keep.cons 6 rfl (Keep.cons 8 rfl (Keep.cons 9 rfl (Keep.cons 44 rfl Keep.nil)))))) ?_
      refine at_true rfl ?_
      refine at_skip ?_
      refine at_seq ?_
      refine at_block ?_
      have hi : i < l2.length := by omega
      refine at_region ?_
      refine wl_read rfl rfl rfl (yl_move rfl rfl) ?_
      refine wl_read rfl rfl rfl (yl_move rfl rfl) ?_
      refine wl_read rfl rfl rfl (yl_move rfl rfl) ?_
      refine wl_read rfl rfl rfl (yl_index rfl rfl rfl ((((hR3.cons _).cons _).cons _).cons _) (at_some hi) rfl rfl Try.underlying22 (by kernel_rfl) rfl) ?_
      refine wl_read rfl rfl rfl (yl_load rfl rfl Try.underlying30 rfl (((((hR3.cons _).cons _).cons _).cons _).cell2 (at_some hi) (i := 0) rfl)) ?_
      refine wl_call rfl rfl rfl (en_call rfl rfl) (append_any rs2 s.fl g2 _ _ (at_ l2 i).xs _ _ (by omega) (by omega) ((((hE3 _ (at_in hi)).cons _).cons _).cons _)) ?_
      rintro _ _ (⟨hok, rfl, rfl⟩ | ⟨hok, rfl, rfl⟩)
      ·
        refine wl_nil ?_
        refine at_keep (Keep.cons 1 rfl (Keep.cons 5 rfl (Keep.cons 6 rfl (Keep.cons 8 rfl (Keep.cons 9 rfl (Keep.cons 44 rfl Keep.nil)))))) ?_
        refine at_inBlock ?_
        refine at_region ?_
        refine wl_read rfl rfl rfl (yl_move rfl rfl) ?_
        refine wl_read rfl rfl rfl (yl_add rfl rfl rfl (w64 (by omega) (by omega))) ?_
        refine wl_read rfl rfl rfl (yl_assign rfl rfl) ?_
        refine wl_nil ?_
        refine at_keep (Keep.cons 1 rfl (Keep.cons 5 rfl (Keep.cons 6 rfl (Keep.cons 8 rfl (Keep.cons 9 rfl (Keep.cons 44 rfl Keep.nil)))))) ?_
        exact at_keep (L' := (fun (i : Nat) (rs2 : List (List UInt8)) => [(1, .slice A3 l2.length c3), (5, .pointer (some ⟨g, 0, none⟩)), (6, .pointer (some ⟨r, 0, none⟩)), (8, .pointer (some ⟨g2, 0, none⟩)), (9, .int .i64 (i : Int))]) (i + 1) (rs2 ++ [(at_ l2 i).xs])) (Keep.consEq 1 rfl rfl (Keep.consEq 5 rfl rfl (Keep.consEq 6 rfl rfl (Keep.consEq 8 rfl rfl (Keep.consEq 9 rfl rfl Keep.nil))))) (ih (i + 1) (rs2 ++ [(at_ l2 i).xs]) ⟨by omega, by rw [List.length_append, List.length_singleton]; omega, fun r hr => by
    rcases List.mem_append.1 hr with hr | hr
    · exact hI3 r hr
    · simp at hr; subst hr; exact hok⟩ (by omega))
      ·
        refine wl_nil ?_
        refine at_keep (Keep.cons 1 rfl (Keep.cons 5 rfl (Keep.cons 6 rfl (Keep.cons 8 rfl (Keep.cons 9 rfl (Keep.cons 44 rfl Keep.nil)))))) ?_
        refine at_inBlock ?_
        refine at_region ?_
        refine wl_read rfl rfl rfl (yl_move rfl rfl) ?_
        refine wl_read rfl rfl rfl (yl_add rfl rfl rfl (w64 (by omega) (by omega))) ?_
        refine wl_read rfl rfl rfl (yl_assign rfl rfl) ?_
        refine wl_nil ?_
        refine at_keep (Keep.cons 1 rfl (Keep.cons 5 rfl (Keep.cons 6 rfl (Keep.cons 8 rfl (Keep.cons 9 rfl (Keep.cons 44 rfl Keep.nil)))))) ?_
        exact at_keep (L' := (fun (i : Nat) (rs2 : List (List UInt8)) => [(1, .slice A3 l2.length c3), (5, .pointer (some ⟨g, 0, none⟩)), (6, .pointer (some ⟨r, 0, none⟩)), (8, .pointer (some ⟨g2, 0, none⟩)), (9, .int .i64 (i : Int))]) (i + 1) rs2) (Keep.consEq 1 rfl rfl (Keep.consEq 5 rfl rfl (Keep.consEq 6 rfl rfl (Keep.consEq 8 rfl rfl (Keep.consEq 9 rfl rfl Keep.nil))))) (ih (i + 1) rs2 ⟨by omega, by omega, hI3⟩ (by omega))
    · intro h8_6
      refine wl_read rfl rfl rfl (yl_pickT rfl rfl rfl) ?_
      refine wl_nil ?_
      refine at_keep (Keep.cons 1 rfl (Keep.cons 5 rfl (Keep.cons 6 rfl (Keep.cons 8 rfl (Keep.cons 9 rfl (Keep.cons 44 rfl Keep.nil)))))) ?_
      refine at_false rfl ?_
      refine at_exit rfl ?_
      refine at_seq ?_
      refine at_region ?_
      refine wl_read rfl rfl rfl (yl_move rfl rfl) ?_
      refine wl_call rfl rfl rfl (en_call rfl rfl) (flush_fn rs2 s.fl g2 _ _) ?_
      rintro _ _ ⟨rfl, rfl⟩
      refine wl_nil ?_
      refine at_keep (Keep.cons 1 rfl (Keep.cons 5 rfl (Keep.cons 6 rfl (Keep.cons 8 rfl (Keep.cons 9 rfl (Keep.cons 44 rfl Keep.nil)))))) ?_
      refine at_seq ?_
      refine at_region ?_
      refine wl_read rfl rfl rfl (yl_move rfl rfl) ?_
      refine wl_heap (fun _ hw => hw.front1) ?_
      refine wl_call rfl rfl rfl (en_call rfl rfl) (bytesJ_fn s.rs s.fl g _ _ (by omega)) ?_
      rintro _ _ ⟨A7, c7, rfl, rfl⟩
      refine wl_read rfl rfl rfl (yl_move rfl rfl) ?_
      refine wl_heap (fun _ hw => hw.front1) ?_
      refine wl_call rfl rfl rfl (en_call rfl rfl) (records_fn s.rs s.fl g _ _ (by omega) (by omega)) ?_
      rintro _ _ ⟨B2, d2, out2, rfl, ho2, rfl⟩
      refine wl_read rfl rfl rfl (yl_move rfl rfl) ?_
      refine wl_heap (fun _ hw => hw.front2) ?_
      refine wl_call rfl rfl rfl (en_call rfl rfl) (crash_fn s.rs s.fl g _ _ 1000 ⟨by decide, by decide⟩ hfl (by omega)) ?_
      rintro _ _ ⟨A9, c9, rfl, rfl⟩
      refine wl_read rfl rfl rfl (yl_assign rfl rfl) ?_
      refine wl_read rfl rfl rfl (yl_assign rfl rfl) ?_
      refine wl_read rfl rfl rfl (yl_assign rfl rfl) ?_
      refine wl_nil ?_
      refine at_keep (Keep.cons 1 rfl (Keep.cons 5 rfl (Keep.cons 6 rfl (Keep.cons 8 rfl (Keep.cons 9 rfl (Keep.cons 10 rfl (Keep.cons 11 rfl (Keep.cons 12 rfl (Keep.cons 44 rfl Keep.nil))))))))) ?_
      refine at_seq ?_
      refine at_seq ?_
      have hl2 := len_of_recs ho2
      have hdl : ((jenc s.rs).take (cutN s.rs s.fl 1000)).length ≤ (jenc s.rs).length := by rw [List.length_take]; omega
      refine at_region ?_
      refine wl_read rfl rfl rfl (yl_move rfl rfl) ?_
      refine wl_read rfl rfl rfl (yl_len rfl rfl Try.underlying30) ?_
      refine wl_split rfl rfl rfl (yp_gtr rfl rfl rfl) ?_ ?_
      · intro h13_2
        refine wl_nil ?_
        refine at_keep (Keep.cons 1 rfl (Keep.cons 5 rfl (Keep.cons 6 rfl (Keep.cons 8 rfl (Keep.cons 9 rfl (Keep.cons 10 rfl (Keep.cons 11 rfl (Keep.cons 12 rfl (Keep.cons 44 rfl (Keep.cons 63 rfl Keep.nil)))))))))) ?_
        refine at_true rfl ?_
        have h0 : 0 < (jenc s.rs).length := by omega
        refine at_region ?_
        refine wl_read rfl rfl rfl (yl_move rfl rfl) ?_
        refine wl_read rfl rfl rfl (yl_index rfl rfl rfl (Rd.of_sl (xs := jenc s.rs) 4 rfl) (at_some h0) rfl rfl Try.underlying30 (by kernel_rfl) rfl) ?_
        refine wl_store rfl rfl (es_at4 (es_storeSl (xs := jenc s.rs) (j := 0) (i := 0) 4 (99 : UInt8) rfl rfl rfl rfl (by kernel_rfl) rfl (at_some h0) rfl rfl)) ?_
        refine wl_nil ?_
        refine at_keep (Keep.cons 1 rfl (Keep.cons 5 rfl (Keep.cons 6 rfl (Keep.cons 8 rfl (Keep.cons 9 rfl (Keep.cons 10 rfl (Keep.cons 11 rfl (Keep.cons 12 rfl (Keep.cons 44 rfl (Keep.cons 63 rfl Keep.nil)))))))))) ?_
        refine at_seq ?_
        refine at_seq ?_
        refine at_region ?_
        refine wl_read rfl rfl rfl (yl_move rfl rfl) ?_
        refine wl_read rfl rfl rfl (yl_len rfl rfl Try.underlying22) ?_
        refine wl_split rfl rfl rfl (yp_gtr rfl rfl rfl) ?_ ?_
        · intro h15_2
          refine wl_read rfl rfl rfl (yl_move rfl rfl) ?_
          refine wl_read rfl rfl rfl (yl_move rfl rfl) ?_
          have h0o : 0 < out2.length := by omega
          refine wl_read rfl rfl rfl (yl_index rfl rfl rfl (Rd.of_sl (xs := out2) 2 rfl) (at_some h0o) rfl rfl Try.underlying22 (by kernel_rfl) rfl) ?_
          refine wl_read rfl rfl rfl (yl_load rfl rfl Try.underlying30 rfl ((Rd.of_sl (xs := out2) 2 rfl).cell2 (at_some h0o) (i := 0) rfl)) ?_
          refine wl_read rfl rfl rfl (yl_len rfl rfl Try.underlying30) ?_
          refine wl_split rfl rfl rfl (yp_gtr rfl rfl rfl) ?_ ?_
          · intro h15_8
            refine wl_read rfl rfl rfl (yl_pickT rfl rfl rfl) ?_
            refine wl_nil ?_
            refine at_keep (Keep.cons 1 rfl (Keep.cons 5 rfl (Keep.cons 6 rfl (Keep.cons 8 rfl (Keep.cons 9 rfl (Keep.cons 10 rfl (Keep.cons 11 rfl (Keep.cons 12 rfl (Keep.cons 44 rfl (Keep.cons 63 rfl (Keep.cons 75 rfl Keep.nil))))))))))) ?_
            refine at_true rfl ?_
            obtain ⟨m, t, rfl⟩ : ∃ m t, out2 = m :: t := by
              cases out2 with
              | nil => simp at h0o
              | cons m t => exact ⟨m, t, rfl⟩
            have h0m : 0 < m.xs.length := by
              have e0 : at_ (m :: t) 0 = m := rfl
              rw [e0] at h15_8
              omega
            refine at_heap (fun _ hw => hw.front3) ?_
            refine at_heap (fun _ hw => hw.pcsOut) ?_
            refine at_region ?_
            refine wl_read rfl rfl rfl (yl_move rfl rfl) ?_
            refine wl_read rfl rfl rfl (yl_index rfl rfl rfl (Rd.of_sl (xs := m :: t) 4 rfl) (show (m :: t)[0]? = some m from rfl) rfl rfl Try.underlying22 (by kernel_rfl) rfl) ?_
            refine wl_read rfl rfl rfl (yl_load rfl rfl Try.underlying30 rfl ((Rd.of_sl (xs := m :: t) 4 rfl).cell2 (show (m :: t)[0]? = some m from rfl) (i := 0) rfl)) ?_
            refine wl_read rfl rfl rfl (yl_index rfl rfl rfl (Rd.of_sl (xs := m.xs) 0 rfl) (at_some h0m) rfl rfl Try.underlying30 (by kernel_rfl) rfl) ?_
            refine wl_store rfl rfl (es_at0 (es_storeSl (xs := m.xs) (j := 0) (i := 0) 0 (99 : UInt8) rfl rfl rfl rfl (by kernel_rfl) rfl (at_some h0m) rfl rfl)) ?_
            refine wl_nil ?_
            refine at_keep (Keep.cons 1 rfl (Keep.cons 5 rfl (Keep.cons 6 rfl (Keep.cons 8 rfl (Keep.cons 9 rfl (Keep.cons 10 rfl (Keep.cons 11 rfl (Keep.cons 12 rfl (Keep.cons 44 rfl (Keep.cons 63 rfl (Keep.cons 75 rfl Keep.nil))))))))))) ?_
            refine at_seq ?_
            refine at_seq ?_
            refine at_region ?_
            refine wl_read rfl rfl rfl (yl_move rfl rfl) ?_
            refine wl_read rfl rfl rfl (yl_len rfl rfl Try.underlying30) ?_
            refine wl_split rfl rfl rfl (yp_gtr rfl rfl rfl) ?_ ?_
            · intro h17_2
              refine wl_nil ?_
              refine at_keep (Keep.cons 1 rfl (Keep.cons 5 rfl (Keep.cons 6 rfl (Keep.cons 8 rfl (Keep.cons 9 rfl (Keep.cons 10 rfl (Keep.cons 11 rfl (Keep.cons 12 rfl (Keep.cons 44 rfl (Keep.cons 63 rfl (Keep.cons 75 rfl (Keep.cons 82 rfl Keep.nil)))))))))))) ?_
              refine at_true rfl ?_
              have h0d : 0 < ((jenc s.rs).take (cutN s.rs s.fl 1000)).length := by omega
              refine at_region ?_
              refine wl_read rfl rfl rfl (yl_move rfl rfl) ?_
              refine wl_read rfl rfl rfl (yl_index rfl rfl rfl (Rd.of_sl (xs := ((jenc s.rs).take (cutN s.rs s.fl 1000))) 2 rfl) (at_some h0d) rfl rfl Try.underlying30 (by kernel_rfl) rfl) ?_
              refine wl_store rfl rfl (es_at2 (es_storeSl (xs := ((jenc s.rs).take (cutN s.rs s.fl 1000))) (j := 0) (i := 0) 2 (99 : UInt8) rfl rfl rfl rfl (by kernel_rfl) rfl (at_some h0d) rfl rfl)) ?_
              refine wl_nil ?_
              refine at_keep (Keep.cons 1 rfl (Keep.cons 5 rfl (Keep.cons 6 rfl (Keep.cons 8 rfl (Keep.cons 9 rfl (Keep.cons 10 rfl (Keep.cons 11 rfl (Keep.cons 12 rfl (Keep.cons 44 rfl (Keep.cons 63 rfl (Keep.cons 75 rfl (Keep.cons 82 rfl Keep.nil)))))))))))) ?_
              refine at_seq ?_
              refine at_heap (fun _ hw => hw.front8.front8.front5) ?_
              refine at_region ?_
              refine wl_read rfl rfl rfl (yl_move rfl rfl) ?_
              refine wl_read rfl rfl rfl (yl_move rfl rfl) ?_
              refine wl_call rfl rfl rfl (en_call rfl rfl) (same_fn s.rs s.ws s.pl s.fl g r _ _ hs.eq hs.ok (by have := hs.len; omega) hs.inp) ?_
              rintro _ _ ⟨rfl, rfl⟩
              refine wl_read rfl rfl rfl (yl_assign rfl rfl) ?_
              refine wl_nil ?_
              refine at_keep (Keep.cons 1 rfl (Keep.cons 4 rfl (Keep.cons 5 rfl (Keep.cons 6 rfl (Keep.cons 8 rfl (Keep.cons 9 rfl (Keep.cons 10 rfl (Keep.cons 11 rfl (Keep.cons 12 rfl (Keep.cons 44 rfl (Keep.cons 63 rfl (Keep.cons 75 rfl (Keep.cons 82 rfl Keep.nil))))))))))))) ?_
              refine at_retH (fun _ hw => hw.tail.tail.tail.tail.tail.tail.tail.tail.tail) Try.func3 (res1 rfl rfl) ?_
              exact ⟨rfl, rfl⟩
            · intro h17_2
              refine wl_nil ?_
              refine at_keep (Keep.cons 1 rfl (Keep.cons 5 rfl (Keep.cons 6 rfl (Keep.cons 8 rfl (Keep.cons 9 rfl (Keep.cons 10 rfl (Keep.cons 11 rfl (Keep.cons 12 rfl (Keep.cons 44 rfl (Keep.cons 63 rfl (Keep.cons 75 rfl (Keep.cons 82 rfl Keep.nil)))))))))))) ?_
              refine at_false rfl ?_
              refine at_skip ?_
              refine at_seq ?_
              refine at_heap (fun _ hw => hw.front8.front8.front5) ?_
              refine at_region ?_
              refine wl_read rfl rfl rfl (yl_move rfl rfl) ?_
              refine wl_read rfl rfl rfl (yl_move rfl rfl) ?_
              refine wl_call rfl rfl rfl (en_call rfl rfl) (same_fn s.rs s.ws s.pl s.fl g r _ _ hs.eq hs.ok (by have := hs.len; omega) hs.inp) ?_
              rintro _ _ ⟨rfl, rfl⟩
              refine wl_read rfl rfl rfl (yl_assign rfl rfl) ?_
              refine wl_nil ?_
              refine at_keep (Keep.cons 1 rfl (Keep.cons 4 rfl (Keep.cons 5 rfl (Keep.cons 6 rfl (Keep.cons 8 rfl (Keep.cons 9 rfl (Keep.cons 10 rfl (Keep.cons 11 rfl (Keep.cons 12 rfl (Keep.cons 44 rfl (Keep.cons 63 rfl (Keep.cons 75 rfl (Keep.cons 82 rfl Keep.nil))))))))))))) ?_
              refine at_retH (fun _ hw => hw.tail.tail.tail.tail.tail.tail.tail.tail.tail) Try.func3 (res1 rfl rfl) ?_
              exact ⟨rfl, rfl⟩
          · intro h15_8
            refine wl_read rfl rfl rfl (yl_pickT rfl rfl rfl) ?_
            refine wl_nil ?_
            refine at_keep (Keep.cons 1 rfl (Keep.cons 5 rfl (Keep.cons 6 rfl (Keep.cons 8 rfl (Keep.cons 9 rfl (Keep.cons 10 rfl (Keep.cons 11 rfl (Keep.cons 12 rfl (Keep.cons 44 rfl (Keep.cons 63 rfl (Keep.cons 75 rfl Keep.nil))))))))))) ?_
            refine at_false rfl ?_
            refine at_skip ?_
            refine at_seq ?_
            refine at_seq ?_
            refine at_region ?_
            refine wl_read rfl rfl rfl (yl_move rfl rfl) ?_
            refine wl_read rfl rfl rfl (yl_len rfl rfl Try.underlying30) ?_
            refine wl_split rfl rfl rfl (yp_gtr rfl rfl rfl) ?_ ?_
            · intro h17_2
              refine wl_nil ?_
              refine at_keep (Keep.cons 1 rfl (Keep.cons 5 rfl (Keep.cons 6 rfl (Keep.cons 8 rfl (Keep.cons 9 rfl (Keep.cons 10 rfl (Keep.cons 11 rfl (Keep.cons 12 rfl (Keep.cons 44 rfl (Keep.cons 63 rfl (Keep.cons 75 rfl (Keep.cons 82 rfl Keep.nil)))))))))))) ?_
              refine at_true rfl ?_
              have h0d : 0 < ((jenc s.rs).take (cutN s.rs s.fl 1000)).length := by omega
              refine at_region ?_
              refine wl_read rfl rfl rfl (yl_move rfl rfl) ?_
              refine wl_read rfl rfl rfl (yl_index rfl rfl rfl (Rd.of_sl (xs := ((jenc s.rs).take (cutN s.rs s.fl 1000))) 0 rfl) (at_some h0d) rfl rfl Try.underlying30 (by kernel_rfl) rfl) ?_
              refine wl_store rfl rfl (es_at0 (es_storeSl (xs := ((jenc s.rs).take (cutN s.rs s.fl 1000))) (j := 0) (i := 0) 0 (99 : UInt8) rfl rfl rfl rfl (by kernel_rfl) rfl (at_some h0d) rfl rfl)) ?_
              refine wl_nil ?_
              refine at_keep (Keep.cons 1 rfl (Keep.cons 5 rfl (Keep.cons 6 rfl (Keep.cons 8 rfl (Keep.cons 9 rfl (Keep.cons 10 rfl (Keep.cons 11 rfl (Keep.cons 12 rfl (Keep.cons 44 rfl (Keep.cons 63 rfl (Keep.cons 75 rfl (Keep.cons 82 rfl Keep.nil)))))))))))) ?_
              refine at_seq ?_
              refine at_heap (fun _ hw => hw.front7.front7.front3) ?_
              refine at_region ?_
              refine wl_read rfl rfl rfl (yl_move rfl rfl) ?_
              refine wl_read rfl rfl rfl (yl_move rfl rfl) ?_
              refine wl_call rfl rfl rfl (en_call rfl rfl) (same_fn s.rs s.ws s.pl s.fl g r _ _ hs.eq hs.ok (by have := hs.len; omega) hs.inp) ?_
              rintro _ _ ⟨rfl, rfl⟩
              refine wl_read rfl rfl rfl (yl_assign rfl rfl) ?_
              refine wl_nil ?_
              refine at_keep (Keep.cons 1 rfl (Keep.cons 4 rfl (Keep.cons 5 rfl (Keep.cons 6 rfl (Keep.cons 8 rfl (Keep.cons 9 rfl (Keep.cons 10 rfl (Keep.cons 11 rfl (Keep.cons 12 rfl (Keep.cons 44 rfl (Keep.cons 63 rfl (Keep.cons 75 rfl (Keep.cons 82 rfl Keep.nil))))))))))))) ?_
              refine at_retH (fun _ hw => hw.tail.tail.tail.tail.tail.tail.tail.tail) Try.func3 (res1 rfl rfl) ?_
              exact ⟨rfl, rfl⟩
            · intro h17_2
              refine wl_nil ?_
              refine at_keep (Keep.cons 1 rfl (Keep.cons 5 rfl (Keep.cons 6 rfl (Keep.cons 8 rfl (Keep.cons 9 rfl (Keep.cons 10 rfl (Keep.cons 11 rfl (Keep.cons 12 rfl (Keep.cons 44 rfl (Keep.cons 63 rfl (Keep.cons 75 rfl (Keep.cons 82 rfl Keep.nil)))))))))))) ?_
              refine at_false rfl ?_
              refine at_skip ?_
              refine at_seq ?_
              refine at_heap (fun _ hw => hw.front7.front7.front3) ?_
              refine at_region ?_
              refine wl_read rfl rfl rfl (yl_move rfl rfl) ?_
              refine wl_read rfl rfl rfl (yl_move rfl rfl) ?_
              refine wl_call rfl rfl rfl (en_call rfl rfl) (same_fn s.rs s.ws s.pl s.fl g r _ _ hs.eq hs.ok (by have := hs.len; omega) hs.inp) ?_
              rintro _ _ ⟨rfl, rfl⟩
              refine wl_read rfl rfl rfl (yl_assign rfl rfl) ?_
              refine wl_nil ?_
              refine at_keep (Keep.cons 1 rfl (Keep.cons 4 rfl (Keep.cons 5 rfl (Keep.cons 6 rfl (Keep.cons 8 rfl (Keep.cons 9 rfl (Keep.cons 10 rfl (Keep.cons 11 rfl (Keep.cons 12 rfl (Keep.cons 44 rfl (Keep.cons 63 rfl (Keep.cons 75 rfl (Keep.cons 82 rfl Keep.nil))))))))))))) ?_
              refine at_retH (fun _ hw => hw.tail.tail.tail.tail.tail.tail.tail.tail) Try.func3 (res1 rfl rfl) ?_
              exact ⟨rfl, rfl⟩
        · intro h15_2
          refine wl_read rfl rfl rfl (yl_move rfl rfl) ?_
          refine wl_skip rfl rfl rfl ?_
          refine wl_skip rfl rfl rfl ?_
          refine wl_skip rfl rfl rfl ?_
          refine wl_skip rfl rfl rfl ?_
          refine wl_skip rfl rfl rfl ?_
          refine wl_read rfl rfl rfl (yl_pickF rfl rfl rfl) ?_
          refine wl_nil ?_
          refine at_keep (Keep.cons 1 rfl (Keep.cons 5 rfl (Keep.cons 6 rfl (Keep.cons 8 rfl (Keep.cons 9 rfl (Keep.cons 10 rfl (Keep.cons 11 rfl (Keep.cons 12 rfl (Keep.cons 44 rfl (Keep.cons 63 rfl (Keep.cons 75 rfl Keep.nil))))))))))) ?_
          refine at_false rfl ?_
          refine at_skip ?_
          refine at_seq ?_
          refine at_seq ?_
          refine at_region ?_
          refine wl_read rfl rfl rfl (yl_move rfl rfl) ?_
          refine wl_read rfl rfl rfl (yl_len rfl rfl Try.underlying30) ?_
          refine wl_split rfl rfl rfl (yp_gtr rfl rfl rfl) ?_ ?_
          · intro h17_2
            refine wl_nil ?_
            refine at_keep (Keep.cons 1 rfl (Keep.cons 5 rfl (Keep.cons 6 rfl (Keep.cons 8 rfl (Keep.cons 9 rfl (Keep.cons 10 rfl (Keep.cons 11 rfl (Keep.cons 12 rfl (Keep.cons 44 rfl (Keep.cons 63 rfl (Keep.cons 75 rfl (Keep.cons 82 rfl Keep.nil)))))))))))) ?_
            refine at_true rfl ?_
            have h0d : 0 < ((jenc s.rs).take (cutN s.rs s.fl 1000)).length := by omega
            refine at_region ?_
            refine wl_read rfl rfl rfl (yl_move rfl rfl) ?_
            refine wl_read rfl rfl rfl (yl_index rfl rfl rfl (Rd.of_sl (xs := ((jenc s.rs).take (cutN s.rs s.fl 1000))) 0 rfl) (at_some h0d) rfl rfl Try.underlying30 (by kernel_rfl) rfl) ?_
            refine wl_store rfl rfl (es_at0 (es_storeSl (xs := ((jenc s.rs).take (cutN s.rs s.fl 1000))) (j := 0) (i := 0) 0 (99 : UInt8) rfl rfl rfl rfl (by kernel_rfl) rfl (at_some h0d) rfl rfl)) ?_
            refine wl_nil ?_
            refine at_keep (Keep.cons 1 rfl (Keep.cons 5 rfl (Keep.cons 6 rfl (Keep.cons 8 rfl (Keep.cons 9 rfl (Keep.cons 10 rfl (Keep.cons 11 rfl (Keep.cons 12 rfl (Keep.cons 44 rfl (Keep.cons 63 rfl (Keep.cons 75 rfl (Keep.cons 82 rfl Keep.nil)))))))))))) ?_
            refine at_seq ?_
            refine at_heap (fun _ hw => hw.front7.front7.front3) ?_
            refine at_region ?_
            refine wl_read rfl rfl rfl (yl_move rfl rfl) ?_
            refine wl_read rfl rfl rfl (yl_move rfl rfl) ?_
            refine wl_call rfl rfl rfl (en_call rfl rfl) (same_fn s.rs s.ws s.pl s.fl g r _ _ hs.eq hs.ok (by have := hs.len; omega) hs.inp) ?_
            rintro _ _ ⟨rfl, rfl⟩
            refine wl_read rfl rfl rfl (yl_assign rfl rfl) ?_
            refine wl_nil ?_
            refine at_keep (Keep.cons 1 rfl (Keep.cons 4 rfl (Keep.cons 5 rfl (Keep.cons 6 rfl (Keep.cons 8 rfl (Keep.cons 9 rfl (Keep.cons 10 rfl (Keep.cons 11 rfl (Keep.cons 12 rfl (Keep.cons 44 rfl (Keep.cons 63 rfl (Keep.cons 75 rfl (Keep.cons 82 rfl Keep.nil))))))))))))) ?_
            refine at_retH (fun _ hw => hw.tail.tail.tail.tail.tail.tail.tail.tail) Try.func3 (res1 rfl rfl) ?_
            exact ⟨rfl, rfl⟩
          · intro h17_2
            refine wl_nil ?_
            refine at_keep (Keep.cons 1 rfl (Keep.cons 5 rfl (Keep.cons 6 rfl (Keep.cons 8 rfl (Keep.cons 9 rfl (Keep.cons 10 rfl (Keep.cons 11 rfl (Keep.cons 12 rfl (Keep.cons 44 rfl (Keep.cons 63 rfl (Keep.cons 75 rfl (Keep.cons 82 rfl Keep.nil)))))))))))) ?_
            refine at_false rfl ?_
            refine at_skip ?_
            refine at_seq ?_
            refine at_heap (fun _ hw => hw.front7.front7.front3) ?_
            refine at_region ?_
            refine wl_read rfl rfl rfl (yl_move rfl rfl) ?_
            refine wl_read rfl rfl rfl (yl_move rfl rfl) ?_
            refine wl_call rfl rfl rfl (en_call rfl rfl) (same_fn s.rs s.ws s.pl s.fl g r _ _ hs.eq hs.ok (by have := hs.len; omega) hs.inp) ?_
            rintro _ _ ⟨rfl, rfl⟩
            refine wl_read rfl rfl rfl (yl_assign rfl rfl) ?_
            refine wl_nil ?_
            refine at_keep (Keep.cons 1 rfl (Keep.cons 4 rfl (Keep.cons 5 rfl (Keep.cons 6 rfl (Keep.cons 8 rfl (Keep.cons 9 rfl (Keep.cons 10 rfl (Keep.cons 11 rfl (Keep.cons 12 rfl (Keep.cons 44 rfl (Keep.cons 63 rfl (Keep.cons 75 rfl (Keep.cons 82 rfl Keep.nil))))))))))))) ?_
            refine at_retH (fun _ hw => hw.tail.tail.tail.tail.tail.tail.tail.tail) Try.func3 (res1 rfl rfl) ?_
            exact ⟨rfl, rfl⟩
      · intro h13_2
        refine wl_nil ?_
        refine at_keep (Keep.cons 1 rfl (Keep.cons 5 rfl (Keep.cons 6 rfl (Keep.cons 8 rfl (Keep.cons 9 rfl (Keep.cons 10 rfl (Keep.cons 11 rfl (Keep.cons 12 rfl (Keep.cons 44 rfl (Keep.cons 63 rfl Keep.nil)))))))))) ?_
        refine at_false rfl ?_
        refine at_skip ?_
        refine at_seq ?_
        refine at_seq ?_
        refine at_region ?_
        refine wl_read rfl rfl rfl (yl_move rfl rfl) ?_
        refine wl_read rfl rfl rfl (yl_len rfl rfl Try.underlying22) ?_
        refine wl_split rfl rfl rfl (yp_gtr rfl rfl rfl) ?_ ?_
        · intro h15_2
          refine wl_read rfl rfl rfl (yl_move rfl rfl) ?_
          refine wl_read rfl rfl rfl (yl_move rfl rfl) ?_
          have h0o : 0 < out2.length := by omega
          refine wl_read rfl rfl rfl (yl_index rfl rfl rfl (Rd.of_sl (xs := out2) 2 rfl) (at_some h0o) rfl rfl Try.underlying22 (by kernel_rfl) rfl) ?_
          refine wl_read rfl rfl rfl (yl_load rfl rfl Try.underlying30 rfl ((Rd.of_sl (xs := out2) 2 rfl).cell2 (at_some h0o) (i := 0) rfl)) ?_
          refine wl_read rfl rfl rfl (yl_len rfl rfl Try.underlying30) ?_
          refine wl_split rfl rfl rfl (yp_gtr rfl rfl rfl) ?_ ?_
          · intro h15_8
            refine wl_read rfl rfl rfl (yl_pickT rfl rfl rfl) ?_
            refine wl_nil ?_
            refine at_keep (Keep.cons 1 rfl (Keep.cons 5 rfl (Keep.cons 6 rfl (Keep.cons 8 rfl (Keep.cons 9 rfl (Keep.cons 10 rfl (Keep.cons 11 rfl (Keep.cons 12 rfl (Keep.cons 44 rfl (Keep.cons 63 rfl (Keep.cons 75 rfl Keep.nil))))))))))) ?_
            refine at_true rfl ?_
            obtain ⟨m, t, rfl⟩ : ∃ m t, out2 = m :: t := by
              cases out2 with
              | nil => simp at h0o
              | cons m t => exact ⟨m, t, rfl⟩
            have h0m : 0 < m.xs.length := by
              have e0 : at_ (m :: t) 0 = m := rfl
              rw [e0] at h15_8
              omega
            refine at_heap (fun _ hw => hw.front3) ?_
            refine at_heap (fun _ hw => hw.pcsOut) ?_
            refine at_region ?_
            refine wl_read rfl rfl rfl (yl_move rfl rfl) ?_
            refine wl_read rfl rfl rfl (yl_index rfl rfl rfl (Rd.of_sl (xs := m :: t) 4 rfl) (show (m :: t)[0]? = some m from rfl) rfl rfl Try.underlying22 (by kernel_rfl) rfl) ?_
            refine wl_read rfl rfl rfl (yl_load rfl rfl Try.underlying30 rfl ((Rd.of_sl (xs := m :: t) 4 rfl).cell2 (show (m :: t)[0]? = some m from rfl) (i := 0) rfl)) ?_
            refine wl_read rfl rfl rfl (yl_index rfl rfl rfl (Rd.of_sl (xs := m.xs) 0 rfl) (at_some h0m) rfl rfl Try.underlying30 (by kernel_rfl) rfl) ?_
            refine wl_store rfl rfl (es_at0 (es_storeSl (xs := m.xs) (j := 0) (i := 0) 0 (99 : UInt8) rfl rfl rfl rfl (by kernel_rfl) rfl (at_some h0m) rfl rfl)) ?_
            refine wl_nil ?_
            refine at_keep (Keep.cons 1 rfl (Keep.cons 5 rfl (Keep.cons 6 rfl (Keep.cons 8 rfl (Keep.cons 9 rfl (Keep.cons 10 rfl (Keep.cons 11 rfl (Keep.cons 12 rfl (Keep.cons 44 rfl (Keep.cons 63 rfl (Keep.cons 75 rfl Keep.nil))))))))))) ?_
            refine at_seq ?_
            refine at_seq ?_
            refine at_region ?_
            refine wl_read rfl rfl rfl (yl_move rfl rfl) ?_
            refine wl_read rfl rfl rfl (yl_len rfl rfl Try.underlying30) ?_
            refine wl_split rfl rfl rfl (yp_gtr rfl rfl rfl) ?_ ?_
            · intro h17_2
              refine wl_nil ?_
              refine at_keep (Keep.cons 1 rfl (Keep.cons 5 rfl (Keep.cons 6 rfl (Keep.cons 8 rfl (Keep.cons 9 rfl (Keep.cons 10 rfl (Keep.cons 11 rfl (Keep.cons 12 rfl (Keep.cons 44 rfl (Keep.cons 63 rfl (Keep.cons 75 rfl (Keep.cons 82 rfl Keep.nil)))))))))))) ?_
              refine at_true rfl ?_
              have h0d : 0 < ((jenc s.rs).take (cutN s.rs s.fl 1000)).length := by omega
              refine at_region ?_
              refine wl_read rfl rfl rfl (yl_move rfl rfl) ?_
              refine wl_read rfl rfl rfl (yl_index rfl rfl rfl (Rd.of_sl (xs := ((jenc s.rs).take (cutN s.rs s.fl 1000))) 2 rfl) (at_some h0d) rfl rfl Try.underlying30 (by kernel_rfl) rfl) ?_
              refine wl_store rfl rfl (es_at2 (es_storeSl (xs := ((jenc s.rs).take (cutN s.rs s.fl 1000))) (j := 0) (i := 0) 2 (99 : UInt8) rfl rfl rfl rfl (by kernel_rfl) rfl (at_some h0d) rfl rfl)) ?_
              refine wl_nil ?_
              refine at_keep (Keep.cons 1 rfl (Keep.cons 5 rfl (Keep.cons 6 rfl (Keep.cons 8 rfl (Keep.cons 9 rfl (Keep.cons 10 rfl (Keep.cons 11 rfl (Keep.cons 12 rfl (Keep.cons 44 rfl (Keep.cons 63 rfl (Keep.cons 75 rfl (Keep.cons 82 rfl Keep.nil)))))))))))) ?_
              refine at_seq ?_
              refine at_heap (fun _ hw => hw.front8.front8.front5) ?_
              refine at_region ?_
              refine wl_read rfl rfl rfl (yl_move rfl rfl) ?_
              refine wl_read rfl rfl rfl (yl_move rfl rfl) ?_
              refine wl_call rfl rfl rfl (en_call rfl rfl) (same_fn s.rs s.ws s.pl s.fl g r _ _ hs.eq hs.ok (by have := hs.len; omega) hs.inp) ?_
              rintro _ _ ⟨rfl, rfl⟩
              refine wl_read rfl rfl rfl (yl_assign rfl rfl) ?_
              refine wl_nil ?_
              refine at_keep (Keep.cons 1 rfl (Keep.cons 4 rfl (Keep.cons 5 rfl (Keep.cons 6 rfl (Keep.cons 8 rfl (Keep.cons 9 rfl (Keep.cons 10 rfl (Keep.cons 11 rfl (Keep.cons 12 rfl (Keep.cons 44 rfl (Keep.cons 63 rfl (Keep.cons 75 rfl (Keep.cons 82 rfl Keep.nil))))))))))))) ?_
              refine at_retH (fun _ hw => hw.tail.tail.tail.tail.tail.tail.tail.tail.tail) Try.func3 (res1 rfl rfl) ?_
              exact ⟨rfl, rfl⟩
            · intro h17_2
              refine wl_nil ?_
              refine at_keep (Keep.cons 1 rfl (Keep.cons 5 rfl (Keep.cons 6 rfl (Keep.cons 8 rfl (Keep.cons 9 rfl (Keep.cons 10 rfl (Keep.cons 11 rfl (Keep.cons 12 rfl (Keep.cons 44 rfl (Keep.cons 63 rfl (Keep.cons 75 rfl (Keep.cons 82 rfl Keep.nil)))))))))))) ?_
              refine at_false rfl ?_
              refine at_skip ?_
              refine at_seq ?_
              refine at_heap (fun _ hw => hw.front8.front8.front5) ?_
              refine at_region ?_
              refine wl_read rfl rfl rfl (yl_move rfl rfl) ?_
              refine wl_read rfl rfl rfl (yl_move rfl rfl) ?_
              refine wl_call rfl rfl rfl (en_call rfl rfl) (same_fn s.rs s.ws s.pl s.fl g r _ _ hs.eq hs.ok (by have := hs.len; omega) hs.inp) ?_
              rintro _ _ ⟨rfl, rfl⟩
              refine wl_read rfl rfl rfl (yl_assign rfl rfl) ?_
              refine wl_nil ?_
              refine at_keep (Keep.cons 1 rfl (Keep.cons 4 rfl (Keep.cons 5 rfl (Keep.cons 6 rfl (Keep.cons 8 rfl (Keep.cons 9 rfl (Keep.cons 10 rfl (Keep.cons 11 rfl (Keep.cons 12 rfl (Keep.cons 44 rfl (Keep.cons 63 rfl (Keep.cons 75 rfl (Keep.cons 82 rfl Keep.nil))))))))))))) ?_
              refine at_retH (fun _ hw => hw.tail.tail.tail.tail.tail.tail.tail.tail.tail) Try.func3 (res1 rfl rfl) ?_
              exact ⟨rfl, rfl⟩
          · intro h15_8
            refine wl_read rfl rfl rfl (yl_pickT rfl rfl rfl) ?_
            refine wl_nil ?_
            refine at_keep (Keep.cons 1 rfl (Keep.cons 5 rfl (Keep.cons 6 rfl (Keep.cons 8 rfl (Keep.cons 9 rfl (Keep.cons 10 rfl (Keep.cons 11 rfl (Keep.cons 12 rfl (Keep.cons 44 rfl (Keep.cons 63 rfl (Keep.cons 75 rfl Keep.nil))))))))))) ?_
            refine at_false rfl ?_
            refine at_skip ?_
            refine at_seq ?_
            refine at_seq ?_
            refine at_region ?_
            refine wl_read rfl rfl rfl (yl_move rfl rfl) ?_
            refine wl_read rfl rfl rfl (yl_len rfl rfl Try.underlying30) ?_
            refine wl_split rfl rfl rfl (yp_gtr rfl rfl rfl) ?_ ?_
            · intro h17_2
              refine wl_nil ?_
              refine at_keep (Keep.cons 1 rfl (Keep.cons 5 rfl (Keep.cons 6 rfl (Keep.cons 8 rfl (Keep.cons 9 rfl (Keep.cons 10 rfl (Keep.cons 11 rfl (Keep.cons 12 rfl (Keep.cons 44 rfl (Keep.cons 63 rfl (Keep.cons 75 rfl (Keep.cons 82 rfl Keep.nil)))))))))))) ?_
              refine at_true rfl ?_
              have h0d : 0 < ((jenc s.rs).take (cutN s.rs s.fl 1000)).length := by omega
              refine at_region ?_
              refine wl_read rfl rfl rfl (yl_move rfl rfl) ?_
              refine wl_read rfl rfl rfl (yl_index rfl rfl rfl (Rd.of_sl (xs := ((jenc s.rs).take (cutN s.rs s.fl 1000))) 0 rfl) (at_some h0d) rfl rfl Try.underlying30 (by kernel_rfl) rfl) ?_
              refine wl_store rfl rfl (es_at0 (es_storeSl (xs := ((jenc s.rs).take (cutN s.rs s.fl 1000))) (j := 0) (i := 0) 0 (99 : UInt8) rfl rfl rfl rfl (by kernel_rfl) rfl (at_some h0d) rfl rfl)) ?_
              refine wl_nil ?_
              refine at_keep (Keep.cons 1 rfl (Keep.cons 5 rfl (Keep.cons 6 rfl (Keep.cons 8 rfl (Keep.cons 9 rfl (Keep.cons 10 rfl (Keep.cons 11 rfl (Keep.cons 12 rfl (Keep.cons 44 rfl (Keep.cons 63 rfl (Keep.cons 75 rfl (Keep.cons 82 rfl Keep.nil)))))))))))) ?_
              refine at_seq ?_
              refine at_heap (fun _ hw => hw.front7.front7.front3) ?_
              refine at_region ?_
              refine wl_read rfl rfl rfl (yl_move rfl rfl) ?_
              refine wl_read rfl rfl rfl (yl_move rfl rfl) ?_
              refine wl_call rfl rfl rfl (en_call rfl rfl) (same_fn s.rs s.ws s.pl s.fl g r _ _ hs.eq hs.ok (by have := hs.len; omega) hs.inp) ?_
              rintro _ _ ⟨rfl, rfl⟩
              refine wl_read rfl rfl rfl (yl_assign rfl rfl) ?_
              refine wl_nil ?_
              refine at_keep (Keep.cons 1 rfl (Keep.cons 4 rfl (Keep.cons 5 rfl (Keep.cons 6 rfl (Keep.cons 8 rfl (Keep.cons 9 rfl (Keep.cons 10 rfl (Keep.cons 11 rfl (Keep.cons 12 rfl (Keep.cons 44 rfl (Keep.cons 63 rfl (Keep.cons 75 rfl (Keep.cons 82 rfl Keep.nil))))))))))))) ?_
              refine at_retH (fun _ hw => hw.tail.tail.tail.tail.tail.tail.tail.tail) Try.func3 (res1 rfl rfl) ?_
              exact ⟨rfl, rfl⟩
            · intro h17_2
              refine wl_nil ?_
              refine at_keep (Keep.cons 1 rfl (Keep.cons 5 rfl (Keep.cons 6 rfl (Keep.cons 8 rfl (Keep.cons 9 rfl (Keep.cons 10 rfl (Keep.cons 11 rfl (Keep.cons 12 rfl (Keep.cons 44 rfl (Keep.cons 63 rfl (Keep.cons 75 rfl (Keep.cons 82 rfl Keep.nil)))))))))))) ?_
              refine at_false rfl ?_
              refine at_skip ?_
              refine at_seq ?_
              refine at_heap (fun _ hw => hw.front7.front7.front3) ?_
              refine at_region ?_
              refine wl_read rfl rfl rfl (yl_move rfl rfl) ?_
              refine wl_read rfl rfl rfl (yl_move rfl rfl) ?_
              refine wl_call rfl rfl rfl (en_call rfl rfl) (same_fn s.rs s.ws s.pl s.fl g r _ _ hs.eq hs.ok (by have := hs.len; omega) hs.inp) ?_
              rintro _ _ ⟨rfl, rfl⟩
              refine wl_read rfl rfl rfl (yl_assign rfl rfl) ?_
              refine wl_nil ?_
              refine at_keep (Keep.cons 1 rfl (Keep.cons 4 rfl (Keep.cons 5 rfl (Keep.cons 6 rfl (Keep.cons 8 rfl (Keep.cons 9 rfl (Keep.cons 10 rfl (Keep.cons 11 rfl (Keep.cons 12 rfl (Keep.cons 44 rfl (Keep.cons 63 rfl (Keep.cons 75 rfl (Keep.cons 82 rfl Keep.nil))))))))))))) ?_
              refine at_retH (fun _ hw => hw.tail.tail.tail.tail.tail.tail.tail.tail) Try.func3 (res1 rfl rfl) ?_
              exact ⟨rfl, rfl⟩
        · intro h15_2
          refine wl_read rfl rfl rfl (yl_move rfl rfl) ?_
          refine wl_skip rfl rfl rfl ?_
          refine wl_skip rfl rfl rfl ?_
          refine wl_skip rfl rfl rfl ?_
          refine wl_skip rfl rfl rfl ?_
          refine wl_skip rfl rfl rfl ?_
          refine wl_read rfl rfl rfl (yl_pickF rfl rfl rfl) ?_
          refine wl_nil ?_
          refine at_keep (Keep.cons 1 rfl (Keep.cons 5 rfl (Keep.cons 6 rfl (Keep.cons 8 rfl (Keep.cons 9 rfl (Keep.cons 10 rfl (Keep.cons 11 rfl (Keep.cons 12 rfl (Keep.cons 44 rfl (Keep.cons 63 rfl (Keep.cons 75 rfl Keep.nil))))))))))) ?_
          refine at_false rfl ?_
          refine at_skip ?_
          refine at_seq ?_
          refine at_seq ?_
          refine at_region ?_
          refine wl_read rfl rfl rfl (yl_move rfl rfl) ?_
          refine wl_read rfl rfl rfl (yl_len rfl rfl Try.underlying30) ?_
          refine wl_split rfl rfl rfl (yp_gtr rfl rfl rfl) ?_ ?_
          · intro h17_2
            refine wl_nil ?_
            refine at_keep (Keep.cons 1 rfl (Keep.cons 5 rfl (Keep.cons 6 rfl (Keep.cons 8 rfl (Keep.cons 9 rfl (Keep.cons 10 rfl (Keep.cons 11 rfl (Keep.cons 12 rfl (Keep.cons 44 rfl (Keep.cons 63 rfl (Keep.cons 75 rfl (Keep.cons 82 rfl Keep.nil)))))))))))) ?_
            refine at_true rfl ?_
            have h0d : 0 < ((jenc s.rs).take (cutN s.rs s.fl 1000)).length := by omega
            refine at_region ?_
            refine wl_read rfl rfl rfl (yl_move rfl rfl) ?_
            refine wl_read rfl rfl rfl (yl_index rfl rfl rfl (Rd.of_sl (xs := ((jenc s.rs).take (cutN s.rs s.fl 1000))) 0 rfl) (at_some h0d) rfl rfl Try.underlying30 (by kernel_rfl) rfl) ?_
            refine wl_store rfl rfl (es_at0 (es_storeSl (xs := ((jenc s.rs).take (cutN s.rs s.fl 1000))) (j := 0) (i := 0) 0 (99 : UInt8) rfl rfl rfl rfl (by kernel_rfl) rfl (at_some h0d) rfl rfl)) ?_
            refine wl_nil ?_
            refine at_keep (Keep.cons 1 rfl (Keep.cons 5 rfl (Keep.cons 6 rfl (Keep.cons 8 rfl (Keep.cons 9 rfl (Keep.cons 10 rfl (Keep.cons 11 rfl (Keep.cons 12 rfl (Keep.cons 44 rfl (Keep.cons 63 rfl (Keep.cons 75 rfl (Keep.cons 82 rfl Keep.nil)))))))))))) ?_
            refine at_seq ?_
            refine at_heap (fun _ hw => hw.front7.front7.front3) ?_
            refine at_region ?_
            refine wl_read rfl rfl rfl (yl_move rfl rfl) ?_
            refine wl_read rfl rfl rfl (yl_move rfl rfl) ?_
            refine wl_call rfl rfl rfl (en_call rfl rfl) (same_fn s.rs s.ws s.pl s.fl g r _ _ hs.eq hs.ok (by have := hs.len; omega) hs.inp) ?_
            rintro _ _ ⟨rfl, rfl⟩
            refine wl_read rfl rfl rfl (yl_assign rfl rfl) ?_
            refine wl_nil ?_
            refine at_keep (Keep.cons 1 rfl (Keep.cons 4 rfl (Keep.cons 5 rfl (Keep.cons 6 rfl (Keep.cons 8 rfl (Keep.cons 9 rfl (Keep.cons 10 rfl (Keep.cons 11 rfl (Keep.cons 12 rfl (Keep.cons 44 rfl (Keep.cons 63 rfl (Keep.cons 75 rfl (Keep.cons 82 rfl Keep.nil))))))))))))) ?_
            refine at_retH (fun _ hw => hw.tail.tail.tail.tail.tail.tail.tail.tail) Try.func3 (res1 rfl rfl) ?_
            exact ⟨rfl, rfl⟩
          · intro h17_2
            refine wl_nil ?_
            refine at_keep (Keep.cons 1 rfl (Keep.cons 5 rfl (Keep.cons 6 rfl (Keep.cons 8 rfl (Keep.cons 9 rfl (Keep.cons 10 rfl (Keep.cons 11 rfl (Keep.cons 12 rfl (Keep.cons 44 rfl (Keep.cons 63 rfl (Keep.cons 75 rfl (Keep.cons 82 rfl Keep.nil)))))))))))) ?_
            refine at_false rfl ?_
            refine at_skip ?_
            refine at_seq ?_
            refine at_heap (fun _ hw => hw.front7.front7.front3) ?_
            refine at_region ?_
            refine wl_read rfl rfl rfl (yl_move rfl rfl) ?_
            refine wl_read rfl rfl rfl (yl_move rfl rfl) ?_
            refine wl_call rfl rfl rfl (en_call rfl rfl) (same_fn s.rs s.ws s.pl s.fl g r _ _ hs.eq hs.ok (by have := hs.len; omega) hs.inp) ?_
            rintro _ _ ⟨rfl, rfl⟩
            refine wl_read rfl rfl rfl (yl_assign rfl rfl) ?_
            refine wl_nil ?_
            refine at_keep (Keep.cons 1 rfl (Keep.cons 4 rfl (Keep.cons 5 rfl (Keep.cons 6 rfl (Keep.cons 8 rfl (Keep.cons 9 rfl (Keep.cons 10 rfl (Keep.cons 11 rfl (Keep.cons 12 rfl (Keep.cons 44 rfl (Keep.cons 63 rfl (Keep.cons 75 rfl (Keep.cons 82 rfl Keep.nil))))))))))))) ?_
            refine at_retH (fun _ hw => hw.tail.tail.tail.tail.tail.tail.tail.tail) Try.func3 (res1 rfl rfl) ?_
            exact ⟨rfl, rfl⟩
  · intro h8_3
    refine wl_read rfl rfl rfl (yl_move rfl rfl) ?_
    refine wl_skip rfl rfl rfl ?_
    refine wl_skip rfl rfl rfl ?_
    refine wl_read rfl rfl rfl (yl_pickF rfl rfl rfl) ?_
    refine wl_nil ?_
    refine at_keep (Keep.cons 1 rfl (Keep.cons 5 rfl (Keep.cons 6 rfl (Keep.cons 8 rfl (Keep.cons 9 rfl (Keep.cons 44 rfl Keep.nil)))))) ?_
    refine at_false rfl ?_
    refine at_exit rfl ?_
    refine at_seq ?_
    refine at_region ?_
    refine wl_read rfl rfl rfl (yl_move rfl rfl) ?_
    refine wl_call rfl rfl rfl (en_call rfl rfl) (flush_fn rs2 s.fl g2 _ _) ?_
    rintro _ _ ⟨rfl, rfl⟩
    refine wl_nil ?_
    refine at_keep (Keep.cons 1 rfl (Keep.cons 5 rfl (Keep.cons 6 rfl (Keep.cons 8 rfl (Keep.cons 9 rfl (Keep.cons 44 rfl Keep.nil)))))) ?_
    refine at_seq ?_
    refine at_region ?_
    refine wl_read rfl rfl rfl (yl_move rfl rfl) ?_
    refine wl_heap (fun _ hw => hw.front1) ?_
    refine wl_call rfl rfl rfl (en_call rfl rfl) (bytesJ_fn s.rs s.fl g _ _ (by omega)) ?_
    rintro _ _ ⟨A7, c7, rfl, rfl⟩
    refine wl_read rfl rfl rfl (yl_move rfl rfl) ?_
    refine wl_heap (fun _ hw => hw.front1) ?_
    refine wl_call rfl rfl rfl (en_call rfl rfl) (records_fn s.rs s.fl g _ _ (by omega) (by omega)) ?_
    rintro _ _ ⟨B2, d2, out2, rfl, ho2, rfl⟩
    refine wl_read rfl rfl rfl (yl_move rfl rfl) ?_
    refine wl_heap (fun _ hw => hw.front2) ?_
    refine wl_call rfl rfl rfl (en_call rfl rfl) (crash_fn s.rs s.fl g _ _ 1000 ⟨by decide, by decide⟩ hfl (by omega)) ?_
    rintro _ _ ⟨A9, c9, rfl, rfl⟩
    refine wl_read rfl rfl rfl (yl_assign rfl rfl) ?_
    refine wl_read rfl rfl rfl (yl_assign rfl rfl) ?_
    refine wl_read rfl rfl rfl (yl_assign rfl rfl) ?_
    refine wl_nil ?_
    refine at_keep (Keep.cons 1 rfl (Keep.cons 5 rfl (Keep.cons 6 rfl (Keep.cons 8 rfl (Keep.cons 9 rfl (Keep.cons 10 rfl (Keep.cons 11 rfl (Keep.cons 12 rfl (Keep.cons 44 rfl Keep.nil))))))))) ?_
    refine at_seq ?_
    refine at_seq ?_
    have hl2 := len_of_recs ho2
    have hdl : ((jenc s.rs).take (cutN s.rs s.fl 1000)).length ≤ (jenc s.rs).length := by rw [List.length_take]; omega
    refine at_region ?_
    refine wl_read rfl rfl rfl (yl_move rfl rfl) ?_
    refine wl_read rfl rfl rfl (yl_len rfl rfl Try.underlying30) ?_
    refine wl_split rfl rfl rfl (yp_gtr rfl rfl rfl) ?_ ?_
    · intro h13_2
      refine wl_nil ?_
      refine at_keep (Keep.cons 1 rfl (Keep.cons 5 rfl (Keep.cons 6 rfl (Keep.cons 8 rfl (Keep.cons 9 rfl (Keep.cons 10 rfl (Keep.cons 11 rfl (Keep.cons 12 rfl (Keep.cons 44 rfl (Keep.cons 63 rfl Keep.nil)))))))))) ?_
      refine at_true rfl ?_
      have h0 : 0 < (jenc s.rs).length := by omega
      refine at_region ?_
      refine wl_read rfl rfl rfl (yl_move rfl rfl) ?_
      refine wl_read rfl rfl rfl (yl_index rfl rfl rfl (Rd.of_sl (xs := jenc s.rs) 4 rfl) (at_some h0) rfl rfl Try.underlying30 (by kernel_rfl) rfl) ?_
      refine wl_store rfl rfl (es_at4 (es_storeSl (xs := jenc s.rs) (j := 0) (i := 0) 4 (99 : UInt8) rfl rfl rfl rfl (by kernel_rfl) rfl (at_some h0) rfl rfl)) ?_
      refine wl_nil ?_
      refine at_keep (Keep.cons 1 rfl (Keep.cons 5 rfl (Keep.cons 6 rfl (Keep.cons 8 rfl (Keep.cons 9 rfl (Keep.cons 10 rfl (Keep.cons 11 rfl (Keep.cons 12 rfl (Keep.cons 44 rfl (Keep.cons 63 rfl Keep.nil)))))))))) ?_
      refine at_seq ?_
      refine at_seq ?_
      refine at_region ?_
      refine wl_read rfl rfl rfl (yl_move rfl rfl) ?_
      refine wl_read rfl rfl rfl (yl_len rfl rfl Try.underlying22) ?_
      refine wl_split rfl rfl rfl (yp_gtr rfl rfl rfl) ?_ ?_
      · intro h15_2
        refine wl_read rfl rfl rfl (yl_move rfl rfl) ?_
        refine wl_read rfl rfl rfl (yl_move rfl rfl) ?_
        have h0o : 0 < out2.length := by omega
        refine wl_read rfl rfl rfl (yl_index rfl rfl rfl (Rd.of_sl (xs := out2) 2 rfl) (at_some h0o) rfl rfl Try.underlying22 (by kernel_rfl) rfl) ?_
        refine wl_read rfl rfl rfl (yl_load rfl rfl Try.underlying30 rfl ((Rd.of_sl (xs := out2) 2 rfl).cell2 (at_some h0o) (i := 0) rfl)) ?_
        refine wl_read rfl rfl rfl (yl_len rfl rfl Try.underlying30) ?_
        refine wl_split rfl rfl rfl (yp_gtr rfl rfl rfl) ?_ ?_
        · intro h15_8
          refine wl_read rfl rfl rfl (yl_pickT rfl rfl rfl) ?_
          refine wl_nil ?_
          refine at_keep (Keep.cons 1 rfl (Keep.cons 5 rfl (Keep.cons 6 rfl (Keep.cons 8 rfl (Keep.cons 9 rfl (Keep.cons 10 rfl (Keep.cons 11 rfl (Keep.cons 12 rfl (Keep.cons 44 rfl (Keep.cons 63 rfl (Keep.cons 75 rfl Keep.nil))))))))))) ?_
          refine at_true rfl ?_
          obtain ⟨m, t, rfl⟩ : ∃ m t, out2 = m :: t := by
            cases out2 with
            | nil => simp at h0o
            | cons m t => exact ⟨m, t, rfl⟩
          have h0m : 0 < m.xs.length := by
            have e0 : at_ (m :: t) 0 = m := rfl
            rw [e0] at h15_8
            omega
          refine at_heap (fun _ hw => hw.front3) ?_
          refine at_heap (fun _ hw => hw.pcsOut) ?_
          refine at_region ?_
          refine wl_read rfl rfl rfl (yl_move rfl rfl) ?_
          refine wl_read rfl rfl rfl (yl_index rfl rfl rfl (Rd.of_sl (xs := m :: t) 4 rfl) (show (m :: t)[0]? = some m from rfl) rfl rfl Try.underlying22 (by kernel_rfl) rfl) ?_
          refine wl_read rfl rfl rfl (yl_load rfl rfl Try.underlying30 rfl ((Rd.of_sl (xs := m :: t) 4 rfl).cell2 (show (m :: t)[0]? = some m from rfl) (i := 0) rfl)) ?_
          refine wl_read rfl rfl rfl (yl_index rfl rfl rfl (Rd.of_sl (xs := m.xs) 0 rfl) (at_some h0m) rfl rfl Try.underlying30 (by kernel_rfl) rfl) ?_
          refine wl_store rfl rfl (es_at0 (es_storeSl (xs := m.xs) (j := 0) (i := 0) 0 (99 : UInt8) rfl rfl rfl rfl (by kernel_rfl) rfl (at_some h0m) rfl rfl)) ?_
          refine wl_nil ?_
          refine at_keep (Keep.cons 1 rfl (Keep.cons 5 rfl (Keep.cons 6 rfl (Keep.cons 8 rfl (Keep.cons 9 rfl (Keep.cons 10 rfl (Keep.cons 11 rfl (Keep.cons 12 rfl (Keep.cons 44 rfl (Keep.cons 63 rfl (Keep.cons 75 rfl Keep.nil))))))))))) ?_
          refine at_seq ?_
          refine at_seq ?_
          refine at_region ?_
          refine wl_read rfl rfl rfl (yl_move rfl rfl) ?_
          refine wl_read rfl rfl rfl (yl_len rfl rfl Try.underlying30) ?_
          refine wl_split rfl rfl rfl (yp_gtr rfl rfl rfl) ?_ ?_
          · intro h17_2
            refine wl_nil ?_
            refine at_keep (Keep.cons 1 rfl (Keep.cons 5 rfl (Keep.cons 6 rfl (Keep.cons 8 rfl (Keep.cons 9 rfl (Keep.cons 10 rfl (Keep.cons 11 rfl (Keep.cons 12 rfl (Keep.cons 44 rfl (Keep.cons 63 rfl (Keep.cons 75 rfl (Keep.cons 82 rfl Keep.nil)))))))))))) ?_
            refine at_true rfl ?_
            have h0d : 0 < ((jenc s.rs).take (cutN s.rs s.fl 1000)).length := by omega
            refine at_region ?_
            refine wl_read rfl rfl rfl (yl_move rfl rfl) ?_
            refine wl_read rfl rfl rfl (yl_index rfl rfl rfl (Rd.of_sl (xs := ((jenc s.rs).take (cutN s.rs s.fl 1000))) 2 rfl) (at_some h0d) rfl rfl Try.underlying30 (by kernel_rfl) rfl) ?_
            refine wl_store rfl rfl (es_at2 (es_storeSl (xs := ((jenc s.rs).take (cutN s.rs s.fl 1000))) (j := 0) (i := 0) 2 (99 : UInt8) rfl rfl rfl rfl (by kernel_rfl) rfl (at_some h0d) rfl rfl)) ?_
            refine wl_nil ?_
            refine at_keep (Keep.cons 1 rfl (Keep.cons 5 rfl (Keep.cons 6 rfl (Keep.cons 8 rfl (Keep.cons 9 rfl (Keep.cons 10 rfl (Keep.cons 11 rfl (Keep.cons 12 rfl (Keep.cons 44 rfl (Keep.cons 63 rfl (Keep.cons 75 rfl (Keep.cons 82 rfl Keep.nil)))))))))))) ?_
            refine at_seq ?_
            refine at_heap (fun _ hw => hw.front8.front8.front5) ?_
            refine at_region ?_
            refine wl_read rfl rfl rfl (yl_move rfl rfl) ?_
            refine wl_read rfl rfl rfl (yl_move rfl rfl) ?_
            refine wl_call rfl rfl rfl (en_call rfl rfl) (same_fn s.rs s.ws s.pl s.fl g r _ _ hs.eq hs.ok (by have := hs.len; omega) hs.inp) ?_
            rintro _ _ ⟨rfl, rfl⟩
            refine wl_read rfl rfl rfl (yl_assign rfl rfl) ?_
            refine wl_nil ?_
            refine at_keep (Keep.cons 1 rfl (Keep.cons 4 rfl (Keep.cons 5 rfl (Keep.cons 6 rfl (Keep.cons 8 rfl (Keep.cons 9 rfl (Keep.cons 10 rfl (Keep.cons 11 rfl (Keep.cons 12 rfl (Keep.cons 44 rfl (Keep.cons 63 rfl (Keep.cons 75 rfl (Keep.cons 82 rfl Keep.nil))))))))))))) ?_
            refine at_retH (fun _ hw => hw.tail.tail.tail.tail.tail.tail.tail.tail.tail) Try.func3 (res1 rfl rfl) ?_
            exact ⟨rfl, rfl⟩
          · intro h17_2
            refine wl_nil ?_
            refine at_keep (Keep.cons 1 rfl (Keep.cons 5 rfl (Keep.cons 6 rfl (Keep.cons 8 rfl (Keep.cons 9 rfl (Keep.cons 10 rfl (Keep.cons 11 rfl (Keep.cons 12 rfl (Keep.cons 44 rfl (Keep.cons 63 rfl (Keep.cons 75 rfl (Keep.cons 82 rfl Keep.nil)))))))))))) ?_
            refine at_false rfl ?_
            refine at_skip ?_
            refine at_seq ?_
            refine at_heap (fun _ hw => hw.front8.front8.front5) ?_
            refine at_region ?_
            refine wl_read rfl rfl rfl (yl_move rfl rfl) ?_
            refine wl_read rfl rfl rfl (yl_move rfl rfl) ?_
            refine wl_call rfl rfl rfl (en_call rfl rfl) (same_fn s.rs s.ws s.pl s.fl g r _ _ hs.eq hs.ok (by have := hs.len; omega) hs.inp) ?_
            rintro _ _ ⟨rfl, rfl⟩
            refine wl_read rfl rfl rfl (yl_assign rfl rfl) ?_
            refine wl_nil ?_
            refine at_keep (Keep.cons 1 rfl (Keep.cons 4 rfl (Keep.cons 5 rfl (Keep.cons 6 rfl (Keep.cons 8 rfl (Keep.cons 9 rfl (Keep.cons 10 rfl (Keep.cons 11 rfl (Keep.cons 12 rfl (Keep.cons 44 rfl (Keep.cons 63 rfl (Keep.cons 75 rfl (Keep.cons 82 rfl Keep.nil))))))))))))) ?_
            refine at_retH (fun _ hw => hw.tail.tail.tail.tail.tail.tail.tail.tail.tail) Try.func3 (res1 rfl rfl) ?_
            exact ⟨rfl, rfl⟩
        · intro h15_8
          refine wl_read rfl rfl rfl (yl_pickT rfl rfl rfl) ?_
          refine wl_nil ?_
          refine at_keep (Keep.cons 1 rfl (Keep.cons 5 rfl (Keep.cons 6 rfl (Keep.cons 8 rfl (Keep.cons 9 rfl (Keep.cons 10 rfl (Keep.cons 11 rfl (Keep.cons 12 rfl (Keep.cons 44 rfl (Keep.cons 63 rfl (Keep.cons 75 rfl Keep.nil))))))))))) ?_
          refine at_false rfl ?_
          refine at_skip ?_
          refine at_seq ?_
          refine at_seq ?_
          refine at_region ?_
          refine wl_read rfl rfl rfl (yl_move rfl rfl) ?_
          refine wl_read rfl rfl rfl (yl_len rfl rfl Try.underlying30) ?_
          refine wl_split rfl rfl rfl (yp_gtr rfl rfl rfl) ?_ ?_
          · intro h17_2
            refine wl_nil ?_
            refine at_keep (Keep.cons 1 rfl (Keep.cons 5 rfl (Keep.cons 6 rfl (Keep.cons 8 rfl (Keep.cons 9 rfl (Keep.cons 10 rfl (Keep.cons 11 rfl (Keep.cons 12 rfl (Keep.cons 44 rfl (Keep.cons 63 rfl (Keep.cons 75 rfl (Keep.cons 82 rfl Keep.nil)))))))))))) ?_
            refine at_true rfl ?_
            have h0d : 0 < ((jenc s.rs).take (cutN s.rs s.fl 1000)).length := by omega
            refine at_region ?_
            refine wl_read rfl rfl rfl (yl_move rfl rfl) ?_
            refine wl_read rfl rfl rfl (yl_index rfl rfl rfl (Rd.of_sl (xs := ((jenc s.rs).take (cutN s.rs s.fl 1000))) 0 rfl) (at_some h0d) rfl rfl Try.underlying30 (by kernel_rfl) rfl) ?_
            refine wl_store rfl rfl (es_at0 (es_storeSl (xs := ((jenc s.rs).take (cutN s.rs s.fl 1000))) (j := 0) (i := 0) 0 (99 : UInt8) rfl rfl rfl rfl (by kernel_rfl) rfl (at_some h0d) rfl rfl)) ?_
            refine wl_nil ?_
            refine at_keep (Keep.cons 1 rfl (Keep.cons 5 rfl (Keep.cons 6 rfl (Keep.cons 8 rfl (Keep.cons 9 rfl (Keep.cons 10 rfl (Keep.cons 11 rfl (Keep.cons 12 rfl (Keep.cons 44 rfl (Keep.cons 63 rfl (Keep.cons 75 rfl (Keep.cons 82 rfl Keep.nil)))))))))))) ?_
            refine at_seq ?_
            refine at_heap (fun _ hw => hw.front7.front7.front3) ?_
            refine at_region ?_
            refine wl_read rfl rfl rfl (yl_move rfl rfl) ?_
            refine wl_read rfl rfl rfl (yl_move rfl rfl) ?_
            refine wl_call rfl rfl rfl (en_call rfl rfl) (same_fn s.rs s.ws s.pl s.fl g r _ _ hs.eq hs.ok (by have := hs.len; omega) hs.inp) ?_
            rintro _ _ ⟨rfl, rfl⟩
            refine wl_read rfl rfl rfl (yl_assign rfl rfl) ?_
            refine wl_nil ?_
            refine at_keep (Keep.cons 1 rfl (Keep.cons 4 rfl (Keep.cons 5 rfl (Keep.cons 6 rfl (Keep.cons 8 rfl (Keep.cons 9 rfl (Keep.cons 10 rfl (Keep.cons 11 rfl (Keep.cons 12 rfl (Keep.cons 44 rfl (Keep.cons 63 rfl (Keep.cons 75 rfl (Keep.cons 82 rfl Keep.nil))))))))))))) ?_
            refine at_retH (fun _ hw => hw.tail.tail.tail.tail.tail.tail.tail.tail) Try.func3 (res1 rfl rfl) ?_
            exact ⟨rfl, rfl⟩
          · intro h17_2
            refine wl_nil ?_
            refine at_keep (Keep.cons 1 rfl (Keep.cons 5 rfl (Keep.cons 6 rfl (Keep.cons 8 rfl (Keep.cons 9 rfl (Keep.cons 10 rfl (Keep.cons 11 rfl (Keep.cons 12 rfl (Keep.cons 44 rfl (Keep.cons 63 rfl (Keep.cons 75 rfl (Keep.cons 82 rfl Keep.nil)))))))))))) ?_
            refine at_false rfl ?_
            refine at_skip ?_
            refine at_seq ?_
            refine at_heap (fun _ hw => hw.front7.front7.front3) ?_
            refine at_region ?_
            refine wl_read rfl rfl rfl (yl_move rfl rfl) ?_
            refine wl_read rfl rfl rfl (yl_move rfl rfl) ?_
            refine wl_call rfl rfl rfl (en_call rfl rfl) (same_fn s.rs s.ws s.pl s.fl g r _ _ hs.eq hs.ok (by have := hs.len; omega) hs.inp) ?_
            rintro _ _ ⟨rfl, rfl⟩
            refine wl_read rfl rfl rfl (yl_assign rfl rfl) ?_
            refine wl_nil ?_
            refine at_keep (Keep.cons 1 rfl (Keep.cons 4 rfl (Keep.cons 5 rfl (Keep.cons 6 rfl (Keep.cons 8 rfl (Keep.cons 9 rfl (Keep.cons 10 rfl (Keep.cons 11 rfl (Keep.cons 12 rfl (Keep.cons 44 rfl (Keep.cons 63 rfl (Keep.cons 75 rfl (Keep.cons 82 rfl Keep.nil))))))))))))) ?_
            refine at_retH (fun _ hw => hw.tail.tail.tail.tail.tail.tail.tail.tail) Try.func3 (res1 rfl rfl) ?_
            exact ⟨rfl, rfl⟩
      · intro h15_2
        refine wl_read rfl rfl rfl (yl_move rfl rfl) ?_
        refine wl_skip rfl rfl rfl ?_
        refine wl_skip rfl rfl rfl ?_
        refine wl_skip rfl rfl rfl ?_
        refine wl_skip rfl rfl rfl ?_
        refine wl_skip rfl rfl rfl ?_
        refine wl_read rfl rfl rfl (yl_pickF rfl rfl rfl) ?_
        refine wl_nil ?_
        refine at_keep (Keep.cons 1 rfl (Keep.cons 5 rfl (Keep.cons 6 rfl (Keep.cons 8 rfl (Keep.cons 9 rfl (Keep.cons 10 rfl (Keep.cons 11 rfl (Keep.cons 12 rfl (Keep.cons 44 rfl (Keep.cons 63 rfl (Keep.cons 75 rfl Keep.nil))))))))))) ?_
        refine at_false rfl ?_
        refine at_skip ?_
        refine at_seq ?_
        refine at_seq ?_
        refine at_region ?_
        refine wl_read rfl rfl rfl (yl_move rfl rfl) ?_
        refine wl_read rfl rfl rfl (yl_len rfl rfl Try.underlying30) ?_
        refine wl_split rfl rfl rfl (yp_gtr rfl rfl rfl) ?_ ?_
        · intro h17_2
          refine wl_nil ?_
          refine at_keep (Keep.cons 1 rfl (Keep.cons 5 rfl (Keep.cons 6 rfl (Keep.cons 8 rfl (Keep.cons 9 rfl (Keep.cons 10 rfl (Keep.cons 11 rfl (Keep.cons 12 rfl (Keep.cons 44 rfl (Keep.cons 63 rfl (Keep.cons 75 rfl (Keep.cons 82 rfl Keep.nil)))))))))))) ?_
          refine at_true rfl ?_
          have h0d : 0 < ((jenc s.rs).take (cutN s.rs s.fl 1000)).length := by omega
          refine at_region ?_
          refine wl_read rfl rfl rfl (yl_move rfl rfl) ?_
          refine wl_read rfl rfl rfl (yl_index rfl rfl rfl (Rd.of_sl (xs := ((jenc s.rs).take (cutN s.rs s.fl 1000))) 0 rfl) (at_some h0d) rfl rfl Try.underlying30 (by kernel_rfl) rfl) ?_
          refine wl_store rfl rfl (es_at0 (es_storeSl (xs := ((jenc s.rs).take (cutN s.rs s.fl 1000))) (j := 0) (i := 0) 0 (99 : UInt8) rfl rfl rfl rfl (by kernel_rfl) rfl (at_some h0d) rfl rfl)) ?_
          refine wl_nil ?_
          refine at_keep (Keep.cons 1 rfl (Keep.cons 5 rfl (Keep.cons 6 rfl (Keep.cons 8 rfl (Keep.cons 9 rfl (Keep.cons 10 rfl (Keep.cons 11 rfl (Keep.cons 12 rfl (Keep.cons 44 rfl (Keep.cons 63 rfl (Keep.cons 75 rfl (Keep.cons 82 rfl Keep.nil)))))))))))) ?_
          refine at_seq ?_
          refine at_heap (fun _ hw => hw.front7.front7.front3) ?_
          refine at_region ?_
          refine wl_read rfl rfl rfl (yl_move rfl rfl) ?_
          refine wl_read rfl rfl rfl (yl_move rfl rfl) ?_
          refine wl_call rfl rfl rfl (en_call rfl rfl) (same_fn s.rs s.ws s.pl s.fl g r _ _ hs.eq hs.ok (by have := hs.len; omega) hs.inp) ?_
          rintro _ _ ⟨rfl, rfl⟩
          refine wl_read rfl rfl rfl (yl_assign rfl rfl) ?_
          refine wl_nil ?_
          refine at_keep (Keep.cons 1 rfl (Keep.cons 4 rfl (Keep.cons 5 rfl (Keep.cons 6 rfl (Keep.cons 8 rfl (Keep.cons 9 rfl (Keep.cons 10 rfl (Keep.cons 11 rfl (Keep.cons 12 rfl (Keep.cons 44 rfl (Keep.cons 63 rfl (Keep.cons 75 rfl (Keep.cons 82 rfl Keep.nil))))))))))))) ?_
          refine at_retH (fun _ hw => hw.tail.tail.tail.tail.tail.tail.tail.tail) Try.func3 (res1 rfl rfl) ?_
          exact ⟨rfl, rfl⟩
        · intro h17_2
          refine wl_nil ?_
          refine at_keep (Keep.cons 1 rfl (Keep.cons 5 rfl (Keep.cons 6 rfl (Keep.cons 8 rfl (Keep.cons 9 rfl (Keep.cons 10 rfl (Keep.cons 11 rfl (Keep.cons 12 rfl (Keep.cons 44 rfl (Keep.cons 63 rfl (Keep.cons 75 rfl (Keep.cons 82 rfl Keep.nil)))))))))))) ?_
          refine at_false rfl ?_
          refine at_skip ?_
          refine at_seq ?_
          refine at_heap (fun _ hw => hw.front7.front7.front3) ?_
          refine at_region ?_
          refine wl_read rfl rfl rfl (yl_move rfl rfl) ?_
          refine wl_read rfl rfl rfl (yl_move rfl rfl) ?_
          refine wl_call rfl rfl rfl (en_call rfl rfl) (same_fn s.rs s.ws s.pl s.fl g r _ _ hs.eq hs.ok (by have := hs.len; omega) hs.inp) ?_
          rintro _ _ ⟨rfl, rfl⟩
          refine wl_read rfl rfl rfl (yl_assign rfl rfl) ?_
          refine wl_nil ?_
          refine at_keep (Keep.cons 1 rfl (Keep.cons 4 rfl (Keep.cons 5 rfl (Keep.cons 6 rfl (Keep.cons 8 rfl (Keep.cons 9 rfl (Keep.cons 10 rfl (Keep.cons 11 rfl (Keep.cons 12 rfl (Keep.cons 44 rfl (Keep.cons 63 rfl (Keep.cons 75 rfl (Keep.cons 82 rfl Keep.nil))))))))))))) ?_
          refine at_retH (fun _ hw => hw.tail.tail.tail.tail.tail.tail.tail.tail) Try.func3 (res1 rfl rfl) ?_
          exact ⟨rfl, rfl⟩
    · intro h13_2
      refine wl_nil ?_
      refine at_keep (Keep.cons 1 rfl (Keep.cons 5 rfl (Keep.cons 6 rfl (Keep.cons 8 rfl (Keep.cons 9 rfl (Keep.cons 10 rfl (Keep.cons 11 rfl (Keep.cons 12 rfl (Keep.cons 44 rfl (Keep.cons 63 rfl Keep.nil)))))))))) ?_
      refine at_false rfl ?_
      refine at_skip ?_
      refine at_seq ?_
      refine at_seq ?_
      refine at_region ?_
      refine wl_read rfl rfl rfl (yl_move rfl rfl) ?_
      refine wl_read rfl rfl rfl (yl_len rfl rfl Try.underlying22) ?_
      refine wl_split rfl rfl rfl (yp_gtr rfl rfl rfl) ?_ ?_
      · intro h15_2
        refine wl_read rfl rfl rfl (yl_move rfl rfl) ?_
        refine wl_read rfl rfl rfl (yl_move rfl rfl) ?_
        have h0o : 0 < out2.length := by omega
        refine wl_read rfl rfl rfl (yl_index rfl rfl rfl (Rd.of_sl (xs := out2) 2 rfl) (at_some h0o) rfl rfl Try.underlying22 (by kernel_rfl) rfl) ?_
        refine wl_read rfl rfl rfl (yl_load rfl rfl Try.underlying30 rfl ((Rd.of_sl (xs := out2) 2 rfl).cell2 (at_some h0o) (i := 0) rfl)) ?_
        refine wl_read rfl rfl rfl (yl_len rfl rfl Try.underlying30) ?_
        refine wl_split rfl rfl rfl (yp_gtr rfl rfl rfl) ?_ ?_
        · intro h15_8
          refine wl_read rfl rfl rfl (yl_pickT rfl rfl rfl) ?_
          refine wl_nil ?_
          refine at_keep (Keep.cons 1 rfl (Keep.cons 5 rfl (Keep.cons 6 rfl (Keep.cons 8 rfl (Keep.cons 9 rfl (Keep.cons 10 rfl (Keep.cons 11 rfl (Keep.cons 12 rfl (Keep.cons 44 rfl (Keep.cons 63 rfl (Keep.cons 75 rfl Keep.nil))))))))))) ?_
          refine at_true rfl ?_
          obtain ⟨m, t, rfl⟩ : ∃ m t, out2 = m :: t := by
            cases out2 with
            | nil => simp at h0o
            | cons m t => exact ⟨m, t, rfl⟩
          have h0m : 0 < m.xs.length := by
            have e0 : at_ (m :: t) 0 = m := rfl
            rw [e0] at h15_8
            omega
          refine at_heap (fun _ hw => hw.front3) ?_
          refine at_heap (fun _ hw => hw.pcsOut) ?_
          refine at_region ?_
          refine wl_read rfl rfl rfl (yl_move rfl rfl) ?_
          refine wl_read rfl rfl rfl (yl_index rfl rfl rfl (Rd.of_sl (xs := m :: t) 4 rfl) (show (m :: t)[0]? = some m from rfl) rfl rfl Try.underlying22 (by kernel_rfl) rfl) ?_
          refine wl_read rfl rfl rfl (yl_load rfl rfl Try.underlying30 rfl ((Rd.of_sl (xs := m :: t) 4 rfl).cell2 (show (m :: t)[0]? = some m from rfl) (i := 0) rfl)) ?_
          refine wl_read rfl rfl rfl (yl_index rfl rfl rfl (Rd.of_sl (xs := m.xs) 0 rfl) (at_some h0m) rfl rfl Try.underlying30 (by kernel_rfl) rfl) ?_
          refine wl_store rfl rfl (es_at0 (es_storeSl (xs := m.xs) (j := 0) (i := 0) 0 (99 : UInt8) rfl rfl rfl rfl (by kernel_rfl) rfl (at_some h0m) rfl rfl)) ?_
          refine wl_nil ?_
          refine at_keep (Keep.cons 1 rfl (Keep.cons 5 rfl (Keep.cons 6 rfl (Keep.cons 8 rfl (Keep.cons 9 rfl (Keep.cons 10 rfl (Keep.cons 11 rfl (Keep.cons 12 rfl (Keep.cons 44 rfl (Keep.cons 63 rfl (Keep.cons 75 rfl Keep.nil))))))))))) ?_
          refine at_seq ?_
          refine at_seq ?_
          refine at_region ?_
          refine wl_read rfl rfl rfl (yl_move rfl rfl) ?_
          refine wl_read rfl rfl rfl (yl_len rfl rfl Try.underlying30) ?_
          refine wl_split rfl rfl rfl (yp_gtr rfl rfl rfl) ?_ ?_
          · intro h17_2
            refine wl_nil ?_
            refine at_keep (Keep.cons 1 rfl (Keep.cons 5 rfl (Keep.cons 6 rfl (Keep.cons 8 rfl (Keep.cons 9 rfl (Keep.cons 10 rfl (Keep.cons 11 rfl (Keep.cons 12 rfl (Keep.cons 44 rfl (Keep.cons 63 rfl (Keep.cons 75 rfl (Keep.cons 82 rfl Keep.nil)))))))))))) ?_
            refine at_true rfl ?_
            have h0d : 0 < ((jenc s.rs).take (cutN s.rs s.fl 1000)).length := by omega
            refine at_region ?_
            refine wl_read rfl rfl rfl (yl_move rfl rfl) ?_
            refine wl_read rfl rfl rfl (yl_index rfl rfl rfl (Rd.of_sl (xs := ((jenc s.rs).take (cutN s.rs s.fl 1000))) 2 rfl) (at_some h0d) rfl rfl Try.underlying30 (by kernel_rfl) rfl) ?_
            refine wl_store rfl rfl (es_at2 (es_storeSl (xs := ((jenc s.rs).take (cutN s.rs s.fl 1000))) (j := 0) (i := 0) 2 (99 : UInt8) rfl rfl rfl rfl (by kernel_rfl) rfl (at_some h0d) rfl rfl)) ?_
            refine wl_nil ?_
            refine at_keep (Keep.cons 1 rfl (Keep.cons 5 rfl (Keep.cons 6 rfl (Keep.cons 8 rfl (Keep.cons 9 rfl (Keep.cons 10 rfl (Keep.cons 11 rfl (Keep.cons 12 rfl (Keep.cons 44 rfl (Keep.cons 63 rfl (Keep.cons 75 rfl (Keep.cons 82 rfl Keep.nil)))))))))))) ?_
            refine at_seq ?_
            refine at_heap (fun _ hw => hw.front8.front8.front5) ?_
            refine at_region ?_
            refine wl_read rfl rfl rfl (yl_move rfl rfl) ?_
            refine wl_read rfl rfl rfl (yl_move rfl rfl) ?_
            refine wl_call rfl rfl rfl (en_call rfl rfl) (same_fn s.rs s.ws s.pl s.fl g r _ _ hs.eq hs.ok (by have := hs.len; omega) hs.inp) ?_
            rintro _ _ ⟨rfl, rfl⟩
            refine wl_read rfl rfl rfl (yl_assign rfl rfl) ?_
            refine wl_nil ?_
            refine at_keep (Keep.cons 1 rfl (Keep.cons 4 rfl (Keep.cons 5 rfl (Keep.cons 6 rfl (Keep.cons 8 rfl (Keep.cons 9 rfl (Keep.cons 10 rfl (Keep.cons 11 rfl (Keep.cons 12 rfl (Keep.cons 44 rfl (Keep.cons 63 rfl (Keep.cons 75 rfl (Keep.cons 82 rfl Keep.nil))))))))))))) ?_
            refine at_retH (fun _ hw => hw.tail.tail.tail.tail.tail.tail.tail.tail.tail) Try.func3 (res1 rfl rfl) ?_
            exact ⟨rfl, rfl⟩
          · intro h17_2
            refine wl_nil ?_
            refine at_keep (Keep.cons 1 rfl (Keep.cons 5 rfl (Keep.cons 6 rfl (Keep.cons 8 rfl (Keep.cons 9 rfl (Keep.cons 10 rfl (Keep.cons 11 rfl (Keep.cons 12 rfl (Keep.cons 44 rfl (Keep.cons 63 rfl (Keep.cons 75 rfl (Keep.cons 82 rfl Keep.nil)))))))))))) ?_
            refine at_false rfl ?_
            refine at_skip ?_
            refine at_seq ?_
            refine at_heap (fun _ hw => hw.front8.front8.front5) ?_
            refine at_region ?_
            refine wl_read rfl rfl rfl (yl_move rfl rfl) ?_
            refine wl_read rfl rfl rfl (yl_move rfl rfl) ?_
            refine wl_call rfl rfl rfl (en_call rfl rfl) (same_fn s.rs s.ws s.pl s.fl g r _ _ hs.eq hs.ok (by have := hs.len; omega) hs.inp) ?_
            rintro _ _ ⟨rfl, rfl⟩
            refine wl_read rfl rfl rfl (yl_assign rfl rfl) ?_
            refine wl_nil ?_
            refine at_keep (Keep.cons 1 rfl (Keep.cons 4 rfl (Keep.cons 5 rfl (Keep.cons 6 rfl (Keep.cons 8 rfl (Keep.cons 9 rfl (Keep.cons 10 rfl (Keep.cons 11 rfl (Keep.cons 12 rfl (Keep.cons 44 rfl (Keep.cons 63 rfl (Keep.cons 75 rfl (Keep.cons 82 rfl Keep.nil))))))))))))) ?_
            refine at_retH (fun _ hw => hw.tail.tail.tail.tail.tail.tail.tail.tail.tail) Try.func3 (res1 rfl rfl) ?_
            exact ⟨rfl, rfl⟩
        · intro h15_8
          refine wl_read rfl rfl rfl (yl_pickT rfl rfl rfl) ?_
          refine wl_nil ?_
          refine at_keep (Keep.cons 1 rfl (Keep.cons 5 rfl (Keep.cons 6 rfl (Keep.cons 8 rfl (Keep.cons 9 rfl (Keep.cons 10 rfl (Keep.cons 11 rfl (Keep.cons 12 rfl (Keep.cons 44 rfl (Keep.cons 63 rfl (Keep.cons 75 rfl Keep.nil))))))))))) ?_
          refine at_false rfl ?_
          refine at_skip ?_
          refine at_seq ?_
          refine at_seq ?_
          refine at_region ?_
          refine wl_read rfl rfl rfl (yl_move rfl rfl) ?_
          refine wl_read rfl rfl rfl (yl_len rfl rfl Try.underlying30) ?_
          refine wl_split rfl rfl rfl (yp_gtr rfl rfl rfl) ?_ ?_
          · intro h17_2
            refine wl_nil ?_
            refine at_keep (Keep.cons 1 rfl (Keep.cons 5 rfl (Keep.cons 6 rfl (Keep.cons 8 rfl (Keep.cons 9 rfl (Keep.cons 10 rfl (Keep.cons 11 rfl (Keep.cons 12 rfl (Keep.cons 44 rfl (Keep.cons 63 rfl (Keep.cons 75 rfl (Keep.cons 82 rfl Keep.nil)))))))))))) ?_
            refine at_true rfl ?_
            have h0d : 0 < ((jenc s.rs).take (cutN s.rs s.fl 1000)).length := by omega
            refine at_region ?_
            refine wl_read rfl rfl rfl (yl_move rfl rfl) ?_
            refine wl_read rfl rfl rfl (yl_index rfl rfl rfl (Rd.of_sl (xs := ((jenc s.rs).take (cutN s.rs s.fl 1000))) 0 rfl) (at_some h0d) rfl rfl Try.underlying30 (by kernel_rfl) rfl) ?_
            refine wl_store rfl rfl (es_at0 (es_storeSl (xs := ((jenc s.rs).take (cutN s.rs s.fl 1000))) (j := 0) (i := 0) 0 (99 : UInt8) rfl rfl rfl rfl (by kernel_rfl) rfl (at_some h0d) rfl rfl)) ?_
            refine wl_nil ?_
            refine at_keep (Keep.cons 1 rfl (Keep.cons 5 rfl (Keep.cons 6 rfl (Keep.cons 8 rfl (Keep.cons 9 rfl (Keep.cons 10 rfl (Keep.cons 11 rfl (Keep.cons 12 rfl (Keep.cons 44 rfl (Keep.cons 63 rfl (Keep.cons 75 rfl (Keep.cons 82 rfl Keep.nil)))))))))))) ?_
            refine at_seq ?_
            refine at_heap (fun _ hw => hw.front7.front7.front3) ?_
            refine at_region ?_
            refine wl_read rfl rfl rfl (yl_move rfl rfl) ?_
            refine wl_read rfl rfl rfl (yl_move rfl rfl) ?_
            refine wl_call rfl rfl rfl (en_call rfl rfl) (same_fn s.rs s.ws s.pl s.fl g r _ _ hs.eq hs.ok (by have := hs.len; omega) hs.inp) ?_
            rintro _ _ ⟨rfl, rfl⟩
            refine wl_read rfl rfl rfl (yl_assign rfl rfl) ?_
            refine wl_nil ?_
            refine at_keep (Keep.cons 1 rfl (Keep.cons 4 rfl (Keep.cons 5 rfl (Keep.cons 6 rfl (Keep.cons 8 rfl (Keep.cons 9 rfl (Keep.cons 10 rfl (Keep.cons 11 rfl (Keep.cons 12 rfl (Keep.cons 44 rfl (Keep.cons 63 rfl (Keep.cons 75 rfl (Keep.cons 82 rfl Keep.nil))))))))))))) ?_
            refine at_retH (fun _ hw => hw.tail.tail.tail.tail.tail.tail.tail.tail) Try.func3 (res1 rfl rfl) ?_
            exact ⟨rfl, rfl⟩
          · intro h17_2
            refine wl_nil ?_
            refine at_keep (Keep.cons 1 rfl (Keep.cons 5 rfl (Keep.cons 6 rfl (Keep.cons 8 rfl (Keep.cons 9 rfl (Keep.cons 10 rfl (Keep.cons 11 rfl (Keep.cons 12 rfl (Keep.cons 44 rfl (Keep.cons 63 rfl (Keep.cons 75 rfl (Keep.cons 82 rfl Keep.nil)))))))))))) ?_
            refine at_false rfl ?_
            refine at_skip ?_
            refine at_seq ?_
            refine at_heap (fun _ hw => hw.front7.front7.front3) ?_
            refine at_region ?_
            refine wl_read rfl rfl rfl (yl_move rfl rfl) ?_
            refine wl_read rfl rfl rfl (yl_move rfl rfl) ?_
            refine wl_call rfl rfl rfl (en_call rfl rfl) (same_fn s.rs s.ws s.pl s.fl g r _ _ hs.eq hs.ok (by have := hs.len; omega) hs.inp) ?_
            rintro _ _ ⟨rfl, rfl⟩
            refine wl_read rfl rfl rfl (yl_assign rfl rfl) ?_
            refine wl_nil ?_
            refine at_keep (Keep.cons 1 rfl (Keep.cons 4 rfl (Keep.cons 5 rfl (Keep.cons 6 rfl (Keep.cons 8 rfl (Keep.cons 9 rfl (Keep.cons 10 rfl (Keep.cons 11 rfl (Keep.cons 12 rfl (Keep.cons 44 rfl (Keep.cons 63 rfl (Keep.cons 75 rfl (Keep.cons 82 rfl Keep.nil))))))))))))) ?_
            refine at_retH (fun _ hw => hw.tail.tail.tail.tail.tail.tail.tail.tail) Try.func3 (res1 rfl rfl) ?_
            exact ⟨rfl, rfl⟩
      · intro h15_2
        refine wl_read rfl rfl rfl (yl_move rfl rfl) ?_
        refine wl_skip rfl rfl rfl ?_
        refine wl_skip rfl rfl rfl ?_
        refine wl_skip rfl rfl rfl ?_
        refine wl_skip rfl rfl rfl ?_
        refine wl_skip rfl rfl rfl ?_
        refine wl_read rfl rfl rfl (yl_pickF rfl rfl rfl) ?_
        refine wl_nil ?_
        refine at_keep (Keep.cons 1 rfl (Keep.cons 5 rfl (Keep.cons 6 rfl (Keep.cons 8 rfl (Keep.cons 9 rfl (Keep.cons 10 rfl (Keep.cons 11 rfl (Keep.cons 12 rfl (Keep.cons 44 rfl (Keep.cons 63 rfl (Keep.cons 75 rfl Keep.nil))))))))))) ?_
        refine at_false rfl ?_
        refine at_skip ?_
        refine at_seq ?_
        refine at_seq ?_
        refine at_region ?_
        refine wl_read rfl rfl rfl (yl_move rfl rfl) ?_
        refine wl_read rfl rfl rfl (yl_len rfl rfl Try.underlying30) ?_
        refine wl_split rfl rfl rfl (yp_gtr rfl rfl rfl) ?_ ?_
        · intro h17_2
          refine wl_nil ?_
          refine at_keep (Keep.cons 1 rfl (Keep.cons 5 rfl (Keep.cons 6 rfl (Keep.cons 8 rfl (Keep.cons 9 rfl (Keep.cons 10 rfl (Keep.cons 11 rfl (Keep.cons 12 rfl (Keep.cons 44 rfl (Keep.cons 63 rfl (Keep.cons 75 rfl (Keep.cons 82 rfl Keep.nil)))))))))))) ?_
          refine at_true rfl ?_
          have h0d : 0 < ((jenc s.rs).take (cutN s.rs s.fl 1000)).length := by omega
          refine at_region ?_
          refine wl_read rfl rfl rfl (yl_move rfl rfl) ?_
          refine wl_read rfl rfl rfl (yl_index rfl rfl rfl (Rd.of_sl (xs := ((jenc s.rs).take (cutN s.rs s.fl 1000))) 0 rfl) (at_some h0d) rfl rfl Try.underlying30 (by kernel_rfl) rfl) ?_
          refine wl_store rfl rfl (es_at0 (es_storeSl (xs := ((jenc s.rs).take (cutN s.rs s.fl 1000))) (j := 0) (i := 0) 0 (99 : UInt8) rfl rfl rfl rfl (by kernel_rfl) rfl (at_some h0d) rfl rfl)) ?_
          refine wl_nil ?_
          refine at_keep (Keep.cons 1 rfl (Keep.cons 5 rfl (Keep.cons 6 rfl (Keep.cons 8 rfl (Keep.cons 9 rfl (Keep.cons 10 rfl (Keep.cons 11 rfl (Keep.cons 12 rfl (Keep.cons 44 rfl (Keep.cons 63 rfl (Keep.cons 75 rfl (Keep.cons 82 rfl Keep.nil)))))))))))) ?_
          refine at_seq ?_
          refine at_heap (fun _ hw => hw.front7.front7.front3) ?_
          refine at_region ?_
          refine wl_read rfl rfl rfl (yl_move rfl rfl) ?_
          refine wl_read rfl rfl rfl (yl_move rfl rfl) ?_
          refine wl_call rfl rfl rfl (en_call rfl rfl) (same_fn s.rs s.ws s.pl s.fl g r _ _ hs.eq hs.ok (by have := hs.len; omega) hs.inp) ?_
          rintro _ _ ⟨rfl, rfl⟩
          refine wl_read rfl rfl rfl (yl_assign rfl rfl) ?_
          refine wl_nil ?_
          refine at_keep (Keep.cons 1 rfl (Keep.cons 4 rfl (Keep.cons 5 rfl (Keep.cons 6 rfl (Keep.cons 8 rfl (Keep.cons 9 rfl (Keep.cons 10 rfl (Keep.cons 11 rfl (Keep.cons 12 rfl (Keep.cons 44 rfl (Keep.cons 63 rfl (Keep.cons 75 rfl (Keep.cons 82 rfl Keep.nil))))))))))))) ?_
          refine at_retH (fun _ hw => hw.tail.tail.tail.tail.tail.tail.tail.tail) Try.func3 (res1 rfl rfl) ?_
          exact ⟨rfl, rfl⟩
        · intro h17_2
          refine wl_nil ?_
          refine at_keep (Keep.cons 1 rfl (Keep.cons 5 rfl (Keep.cons 6 rfl (Keep.cons 8 rfl (Keep.cons 9 rfl (Keep.cons 10 rfl (Keep.cons 11 rfl (Keep.cons 12 rfl (Keep.cons 44 rfl (Keep.cons 63 rfl (Keep.cons 75 rfl (Keep.cons 82 rfl Keep.nil)))))))))))) ?_
          refine at_false rfl ?_
          refine at_skip ?_
          refine at_seq ?_
          refine at_heap (fun _ hw => hw.front7.front7.front3) ?_
          refine at_region ?_
          refine wl_read rfl rfl rfl (yl_move rfl rfl) ?_
          refine wl_read rfl rfl rfl (yl_move rfl rfl) ?_
          refine wl_call rfl rfl rfl (en_call rfl rfl) (same_fn s.rs s.ws s.pl s.fl g r _ _ hs.eq hs.ok (by have := hs.len; omega) hs.inp) ?_
          rintro _ _ ⟨rfl, rfl⟩
          refine wl_read rfl rfl rfl (yl_assign rfl rfl) ?_
          refine wl_nil ?_
          refine at_keep (Keep.cons 1 rfl (Keep.cons 4 rfl (Keep.cons 5 rfl (Keep.cons 6 rfl (Keep.cons 8 rfl (Keep.cons 9 rfl (Keep.cons 10 rfl (Keep.cons 11 rfl (Keep.cons 12 rfl (Keep.cons 44 rfl (Keep.cons 63 rfl (Keep.cons 75 rfl (Keep.cons 82 rfl Keep.nil))))))))))))) ?_
          refine at_retH (fun _ hw => hw.tail.tail.tail.tail.tail.tail.tail.tail) Try.func3 (res1 rfl rfl) ?_
          exact ⟨rfl, rfl⟩
end Go.Proofs.Yteecjaiklpkhaaa

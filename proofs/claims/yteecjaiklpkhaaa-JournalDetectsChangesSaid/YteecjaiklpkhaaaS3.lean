/- Walk of the law on changed bytes. -/
import Derived.Test.YteecjaiklpkhaaaS2
namespace Go.Proofs.Yteecjaiklpkhaaa
open Go

theorem at_recs {l : List (Mem UInt8)} {rs : List (List UInt8)} (h : recs l = rs) (j : Nat) (hj : j < rs.length) : (at_ l j).xs = at_ rs j := by
  have hl := len_of_recs h
  have h1 : (recs l)[j]? = rs[j]? := by rw [h]
  unfold recs at h1
  rw [List.getElem?_map, at_some (show j < l.length by omega), at_some hj] at h1
  simpa using h1
theorem at_jenc (rs : List (List UInt8)) (k j : Nat) (hk : k < rs.length) (hj : j < (at_ rs k).length) : at_ (jenc rs) ((jenc (rs.take k)).length + 2 + j) = at_ (at_ rs k) j := by
  rw [jenc_split rs k hk, Nat.add_assoc, at_app_right]
  unfold fr
  rw [Nat.add_comm 2 j]
  show at_ (b8 ((at_ rs k).length / 256) :: b8 (at_ rs k).length :: ((at_ rs k ++ be4 (crc (at_ rs k))) ++ jenc (rs.drop (k + 1)))) (j + 1 + 1) = _
  rw [at_cons_succ, at_cons_succ, List.append_assoc, at_app_left hj]
theorem xor_ne (x y : UInt8) (hy : y.toNat ≠ 0) : x ^^^ y ≠ x := fun h => by
  have h1 := congrArg UInt8.toNat h
  rw [UInt8.toNat_xor] at h1
  exact hy (xor_injL (c := x.toNat) (by rw [h1, Nat.xor_zero]))
theorem wrap_ne {n : Int} {y : UInt8} (h : IntKind.u8.wrap n = ((y.toNat : Nat) : Int)) (h1 : 1 ≤ n) (h2 : n ≤ 255) : y.toNat ≠ 0 := by
  rw [IntKind.wrap_u8'] at h; omega
theorem jenc_next (rs : List (List UInt8)) (i : Nat) (h : i < rs.length) : (jenc (rs.take (i + 1))).length = (jenc (rs.take i)).length + ((at_ rs i).length + 6) := by
  rw [take_succ_at h, jenc_snoc, List.length_append, fr_length]
theorem okR_at {rs : List (List UInt8)} (h : ∀ r, r ∈ rs → okR r) (i : Nat) (hi : i < rs.length) : 1 ≤ (at_ rs i).length ∧ (at_ rs i).length ≤ 400 := h _ (at_in hi)

theorem law10 (l : List (Mem UInt8)) (A : Option Addr) (c : Nat) (at' by' : Int) (hat : I64 at') (b : World) (H : List Asr) (hR : Rd H A l) (hE : ∀ m, m ∈ l → Rd H m.A m.xs) : Fn Try.prog 10 [.slice A l.length c, .int .i64 at', .int .i64 by'] b H (fun v H' => v = .bool true ∧ H = H') := by
  have hmy := md_bd by' 255 (by decide)
  obtain ⟨yb, hyb⟩ := wrap8_ex (1 + md by' 255)
  have hyn := wrap_ne hyb (by omega) (by omega)
  have hq : -9223372036854775808 ≤ at'.tdiv 7 ∧ at'.tdiv 7 ≤ 9223372036854775807 := by
    obtain ⟨h1, h2⟩ := hat
    obtain ⟨h3, h4⟩ := tdiv_eq_if at' 7 (by decide)
    rcases Int.le_total 0 at' with h | h
    · have := h3 h; omega
    · have := h4 h; omega
  refine fn_of_at (by kernel_rfl) Try.func10 rfl Try.ntmps10 rfl rfl ?_
  refine at_seq ?_
  refine at_region ?_
  refine wl_read rfl rfl rfl (yl_assign rfl rfl) ?_
  refine wl_nil ?_
  refine at_keep (Keep.cons 0 rfl (Keep.cons 1 rfl (Keep.cons 2 rfl (Keep.cons 6 rfl Keep.nil)))) ?_
  refine at_seq ?_
  refine at_region ?_
  refine wl_read rfl rfl rfl (yl_move rfl rfl) ?_
  refine wl_call rfl rfl rfl (en_call rfl rfl) (fill_fn l A c ([] : List Bool) none 0 _ _ hR (fun m hm => (hE m hm)) Rd.nil) ?_
  rintro _ _ ⟨g, r, s, hs, rfl, rfl⟩
  refine wl_read rfl rfl rfl (yl_move rfl rfl) ?_
  refine wl_read rfl rfl rfl (yl_extract rfl rfl rfl) ?_
  refine wl_read rfl rfl rfl (yl_extract rfl rfl rfl) ?_
  refine wl_read rfl rfl rfl (yl_extract rfl rfl rfl) ?_
  refine wl_read rfl rfl rfl (yl_assign rfl rfl) ?_
  refine wl_read rfl rfl rfl (yl_assign rfl rfl) ?_
  refine wl_read rfl rfl rfl (yl_assign rfl rfl) ?_
  refine wl_nil ?_
  refine at_keep (Keep.cons 0 rfl (Keep.cons 1 rfl (Keep.cons 2 rfl (Keep.cons 6 rfl (Keep.cons 7 rfl (Keep.cons 9 rfl Keep.nil)))))) ?_
  refine at_seq ?_
  have hby := hs.bytes
  have hfl := hs.flle
  have hlen := hs.len
  refine at_region ?_
  refine wl_read rfl rfl rfl (yl_move rfl rfl) ?_
  refine wl_call rfl rfl rfl (en_call rfl rfl) (records_fn s.rs s.fl g _ _ (by omega) (by omega)) ?_
  rintro _ _ ⟨B5, d5, out5, rfl, ho5, rfl⟩
  refine wl_read rfl rfl rfl (yl_assign rfl rfl) ?_
  refine wl_nil ?_
  refine at_keep (Keep.cons 0 rfl (Keep.cons 1 rfl (Keep.cons 2 rfl (Keep.cons 6 rfl (Keep.cons 7 rfl (Keep.cons 9 rfl (Keep.cons 10 rfl Keep.nil))))))) ?_
  refine at_seq ?_
  refine at_seq ?_
  refine at_region ?_
  refine wl_read rfl rfl rfl (yl_move rfl rfl) ?_
  refine wl_read rfl rfl rfl (yl_notT rfl rfl) ?_
  refine wl_read rfl rfl rfl (yl_move rfl rfl) ?_
  refine wl_call rfl rfl rfl (en_call rfl rfl) (awake_fn _ _) ?_
  rintro _ _ ⟨rfl, rfl⟩
  refine wl_read rfl rfl rfl (yl_notT rfl rfl) ?_
  refine wl_read rfl rfl rfl (yl_pickF rfl rfl rfl) ?_
  refine wl_nil ?_
  refine at_keep (Keep.cons 0 rfl (Keep.cons 1 rfl (Keep.cons 2 rfl (Keep.cons 6 rfl (Keep.cons 7 rfl (Keep.cons 9 rfl (Keep.cons 10 rfl (Keep.cons 28 rfl Keep.nil)))))))) ?_
  refine at_false rfl ?_
  refine at_skip ?_
  refine at_seq ?_
  refine at_seq ?_
  have hl5 := len_of_recs ho5
  refine at_region ?_
  refine wl_read rfl rfl rfl (yl_move rfl rfl) ?_
  refine wl_read rfl rfl rfl (yl_len rfl rfl Try.underlying22) ?_
  refine wl_split rfl rfl rfl (yp_eql rfl rfl rfl) ?_ ?_
  · intro h5_2
    refine wl_nil ?_
    refine at_keep (Keep.cons 0 rfl (Keep.cons 1 rfl (Keep.cons 2 rfl (Keep.cons 6 rfl (Keep.cons 7 rfl (Keep.cons 9 rfl (Keep.cons 10 rfl (Keep.cons 28 rfl (Keep.cons 31 rfl Keep.nil))))))))) ?_
    refine at_true rfl ?_
    refine at_seq ?_
    refine at_region ?_
    refine wl_read rfl rfl rfl (yl_assign rfl rfl) ?_
    refine wl_nil ?_
    refine at_keep (Keep.cons 0 rfl (Keep.cons 1 rfl (Keep.cons 2 rfl (Keep.cons 6 rfl (Keep.cons 7 rfl (Keep.cons 9 rfl (Keep.cons 10 rfl (Keep.cons 28 rfl (Keep.cons 31 rfl Keep.nil))))))))) ?_
    refine at_retH (fun _ hw => hw.tail.tail.tail.tail.tail) Try.func10 (res1 rfl rfl) ?_
    exact ⟨rfl, rfl⟩
  · intro h5_2
    refine wl_nil ?_
    refine at_keep (Keep.cons 0 rfl (Keep.cons 1 rfl (Keep.cons 2 rfl (Keep.cons 6 rfl (Keep.cons 7 rfl (Keep.cons 9 rfl (Keep.cons 10 rfl (Keep.cons 28 rfl (Keep.cons 31 rfl Keep.nil))))))))) ?_
    refine at_false rfl ?_
    refine at_skip ?_
    refine at_seq ?_
    have hmd := md_bd at' (out5.length : Int) (by omega)
    obtain ⟨k0, hk0⟩ : ∃ k0 : Nat, md at' (out5.length : Int) = (k0 : Int) := ⟨_, (Int.toNat_of_nonneg hmd.1).symm⟩
    have hkl : k0 < s.rs.length := by omega
    have hko : k0 < out5.length := by omega
    have hxk := at_recs ho5 k0 hkl
    have hrk := okR_at hs.ok k0 hkl
    have hin := jenc_in s.rs k0 hkl
    refine at_region ?_
    refine wl_read rfl rfl rfl (yl_move rfl rfl) ?_
    refine wl_read rfl rfl rfl (yl_move rfl rfl) ?_
    refine wl_read rfl rfl rfl (yl_len rfl rfl Try.underlying22) ?_
    refine wl_call rfl rfl rfl (en_call rfl rfl) (mod_fn _ _ _ _ (by omega) (by omega)) ?_
    rintro _ _ ⟨rfl, rfl⟩
    rw [hk0]
    refine wl_read rfl rfl rfl (yl_assign rfl rfl) ?_
    refine wl_nil ?_
    refine at_keep (Keep.cons 0 rfl (Keep.cons 1 rfl (Keep.cons 2 rfl (Keep.cons 6 rfl (Keep.cons 7 rfl (Keep.cons 9 rfl (Keep.cons 10 rfl (Keep.cons 11 rfl (Keep.cons 28 rfl (Keep.cons 31 rfl Keep.nil)))))))))) ?_
    refine at_seq ?_
    refine at_region ?_
    refine wl_read rfl rfl rfl (yl_assign rfl rfl) ?_
    refine wl_nil ?_
    refine at_keep (Keep.cons 0 rfl (Keep.cons 1 rfl (Keep.cons 2 rfl (Keep.cons 6 rfl (Keep.cons 7 rfl (Keep.cons 9 rfl (Keep.cons 10 rfl (Keep.cons 11 rfl (Keep.cons 12 rfl (Keep.cons 28 rfl (Keep.cons 31 rfl Keep.nil))))))))))) ?_
    refine at_seq ?_
    refine at_seq ?_
    refine at_heap (fun _ hw => hw.front3.tail) ?_
    refine at_heap (fun _ hw => hw.front3.tail) ?_
    refine at_heap (fun _ hw => hw.front2.front2.front2) ?_
    refine at_region ?_
    refine wl_read rfl rfl rfl (yl_assign rfl rfl) ?_
    refine wl_nil ?_
    refine at_keep (Keep.cons 0 rfl (Keep.cons 1 rfl (Keep.cons 2 rfl (Keep.cons 6 rfl (Keep.cons 7 rfl (Keep.cons 9 rfl (Keep.cons 10 rfl (Keep.cons 11 rfl (Keep.cons 12 rfl (Keep.cons 13 rfl (Keep.cons 28 rfl (Keep.cons 31 rfl Keep.nil)))))))))))) ?_
    refine at_block ?_
    refine at_keep (L' := (fun (i : Nat) => [(1, .int .i64 at'), (2, .int .i64 by'), (7, .pointer (some ⟨g, 0, none⟩)), (10, .slice B5 out5.length d5), (11, .int .i64 (k0 : Int)), (12, .int .i64 ((jenc (s.rs.take i)).length : Int)), (13, .int .i64 (i : Int))]) 0) (Keep.consEq 1 rfl rfl (Keep.consEq 2 rfl rfl (Keep.consEq 7 rfl rfl (Keep.consEq 10 rfl rfl (Keep.consEq 11 rfl rfl (Keep.consEq 12 rfl rfl (Keep.consEq 13 rfl rfl Keep.nil))))))) ?_
    refine at_loop1 (fun (i : Nat) => i ≤ k0) (fun (i : Nat) => [(1, .int .i64 at'), (2, .int .i64 by'), (7, .pointer (some ⟨g, 0, none⟩)), (10, .slice B5 out5.length d5), (11, .int .i64 (k0 : Int)), (12, .int .i64 ((jenc (s.rs.take i)).length : Int)), (13, .int .i64 (i : Int))]) (fun (i : Nat) => Sl B5 d5 30 out5 :: Pcs out5 :: Jn g s.rs s.fl :: H) (fun (i : Nat) => k0 - i) 0 (by omega) ?_
    intro i hIi ih
    refine at_seq ?_
    refine at_seq ?_
    refine at_region ?_
    refine wl_read rfl rfl rfl (yl_move rfl rfl) ?_
    refine wl_read rfl rfl rfl (yl_move rfl rfl) ?_
    refine wl_split rfl rfl rfl (yp_lss rfl rfl rfl) ?_ ?_
    · intro h10_2
      refine wl_nil ?_
      refine at_keep (Keep.cons 1 rfl (Keep.cons 2 rfl (Keep.cons 7 rfl (Keep.cons 10 rfl (Keep.cons 11 rfl (Keep.cons 12 rfl (Keep.cons 13 rfl (Keep.cons 38 rfl Keep.nil)))))))) ?_
      refine at_true rfl ?_
      refine at_skip ?_
      refine at_seq ?_
      refine at_block ?_
      have hir : i < s.rs.length := by omega
      have hio : i < out5.length := by omega
      have hxi := at_recs ho5 i hir
      have hri := okR_at hs.ok i hir
      have hnx := jenc_next s.rs i hir
      have hle := jenc_take_le s.rs i
      have hxl : (at_ out5 i).xs.length = (at_ s.rs i).length := by rw [hxi]
      refine at_region ?_
      refine wl_read rfl rfl rfl (yl_move rfl rfl) ?_
      refine wl_read rfl rfl rfl (yl_move rfl rfl) ?_
      refine wl_read rfl rfl rfl (yl_move rfl rfl) ?_
      refine wl_read rfl rfl rfl (yl_index rfl rfl rfl (Rd.of_sl (xs := out5) 0 rfl) (at_some hio) rfl rfl Try.underlying22 (by kernel_rfl) rfl) ?_
      refine wl_read rfl rfl rfl (yl_load rfl rfl Try.underlying30 rfl ((Rd.of_sl (xs := out5) 0 rfl).cell2 (at_some hio) (i := 0) rfl)) ?_
      refine wl_read rfl rfl rfl (yl_len rfl rfl Try.underlying30) ?_
      refine wl_read rfl rfl rfl (yl_add rfl rfl rfl (w64 (by omega) (by omega))) ?_
      refine wl_read rfl rfl rfl (yl_add (r := ((jenc (s.rs.take (i + 1))).length : Int)) rfl rfl rfl (by rw [w64 (by omega) (by omega)]; omega)) ?_
      refine wl_read rfl rfl rfl (yl_assign rfl rfl) ?_
      refine wl_nil ?_
      refine at_keep (Keep.cons 1 rfl (Keep.cons 2 rfl (Keep.cons 7 rfl (Keep.cons 10 rfl (Keep.cons 11 rfl (Keep.cons 12 rfl (Keep.cons 13 rfl (Keep.cons 38 rfl Keep.nil)))))))) ?_
      refine at_inBlock ?_
      refine at_region ?_
      refine wl_read rfl rfl rfl (yl_move rfl rfl) ?_
      refine wl_read rfl rfl rfl (yl_add rfl rfl rfl (w64 (by omega) (by omega))) ?_
      refine wl_read rfl rfl rfl (yl_assign rfl rfl) ?_
      refine wl_nil ?_
      refine at_keep (Keep.cons 1 rfl (Keep.cons 2 rfl (Keep.cons 7 rfl (Keep.cons 10 rfl (Keep.cons 11 rfl (Keep.cons 12 rfl (Keep.cons 13 rfl (Keep.cons 38 rfl Keep.nil)))))))) ?_
      exact at_keep (L' := (fun (i : Nat) => [(1, .int .i64 at'), (2, .int .i64 by'), (7, .pointer (some ⟨g, 0, none⟩)), (10, .slice B5 out5.length d5), (11, .int .i64 (k0 : Int)), (12, .int .i64 ((jenc (s.rs.take i)).length : Int)), (13, .int .i64 (i : Int))]) (i + 1)) (Keep.consEq 1 rfl rfl (Keep.consEq 2 rfl rfl (Keep.consEq 7 rfl rfl (Keep.consEq 10 rfl rfl (Keep.consEq 11 rfl rfl (Keep.consEq 12 rfl rfl (Keep.consEq 13 rfl rfl Keep.nil))))))) (ih (i + 1) (by omega) (by omega))
    · intro h10_2
      refine wl_nil ?_
      refine at_keep (Keep.cons 1 rfl (Keep.cons 2 rfl (Keep.cons 7 rfl (Keep.cons 10 rfl (Keep.cons 11 rfl (Keep.cons 12 rfl (Keep.cons 13 rfl (Keep.cons 38 rfl Keep.nil)))))))) ?_
      refine at_false rfl ?_
      refine at_exit rfl ?_
      refine at_seq ?_
      have hik : i = k0 := by omega
      rw [hik]
      have hxl : (at_ out5 k0).xs.length = (at_ s.rs k0).length := by rw [hxk]
      refine at_region ?_
      refine wl_read rfl rfl rfl (yl_move rfl rfl) ?_
      refine wl_heap (fun _ hw => hw.front2) ?_
      refine wl_call rfl rfl rfl (en_call rfl rfl) (bytesJ_fn s.rs s.fl g _ _ (by omega)) ?_
      rintro _ _ ⟨A6, c6, rfl, rfl⟩
      refine wl_read rfl rfl rfl (yl_assign rfl rfl) ?_
      refine wl_nil ?_
      refine at_keep (Keep.cons 1 rfl (Keep.cons 2 rfl (Keep.cons 7 rfl (Keep.cons 10 rfl (Keep.cons 11 rfl (Keep.cons 12 rfl (Keep.cons 13 rfl (Keep.cons 14 rfl (Keep.cons 38 rfl Keep.nil))))))))) ?_
      refine at_seq ?_
      refine at_seq ?_
      refine at_region ?_
      refine wl_read rfl rfl rfl (yl_move rfl rfl) ?_
      refine wl_read rfl rfl rfl (yl_add rfl rfl rfl (w64 (by omega) (by omega))) ?_
      refine wl_read rfl rfl rfl (yl_move rfl rfl) ?_
      refine wl_read rfl rfl rfl (yl_move rfl rfl) ?_
      refine wl_read rfl rfl rfl (yl_index rfl rfl rfl (Rd.of_sl (xs := out5) 2 rfl) (at_some hko) rfl rfl Try.underlying22 (by kernel_rfl) rfl) ?_
      refine wl_read rfl rfl rfl (yl_load rfl rfl Try.underlying30 rfl ((Rd.of_sl (xs := out5) 2 rfl).cell2 (at_some hko) (i := 0) rfl)) ?_
      refine wl_read rfl rfl rfl (yl_len rfl rfl Try.underlying30) ?_
      refine wl_read rfl rfl rfl (yl_add rfl rfl rfl (w64 (by omega) (by omega))) ?_
      refine wl_read rfl rfl rfl (yl_move rfl rfl) ?_
      refine wl_read rfl rfl rfl (yl_len rfl rfl Try.underlying30) ?_
      refine wl_read rfl rfl rfl ((yp_gtr rfl rfl rfl).2 (by omega)) ?_
      refine wl_nil ?_
      refine at_keep (Keep.cons 1 rfl (Keep.cons 2 rfl (Keep.cons 7 rfl (Keep.cons 10 rfl (Keep.cons 11 rfl (Keep.cons 12 rfl (Keep.cons 13 rfl (Keep.cons 14 rfl (Keep.cons 38 rfl (Keep.cons 61 rfl Keep.nil)))))))))) ?_
      refine at_false rfl ?_
      refine at_skip ?_
      refine at_seq ?_
      refine at_heap (fun _ hw => hw.front2.front1) ?_
      have hmq := md_bd (at'.tdiv 7) ((at_ out5 k0).xs.length : Int) (by omega)
      obtain ⟨j0, hj0⟩ : ∃ j0 : Nat, md (at'.tdiv 7) ((at_ out5 k0).xs.length : Int) = (j0 : Int) := ⟨_, (Int.toNat_of_nonneg hmq.1).symm⟩
      have hjl : j0 < (at_ s.rs k0).length := by omega
      have hjb : ((jenc (s.rs.take k0)).length + 2 + j0) < (jenc s.rs).length := by omega
      refine at_know (fun w hw => (Rd.of_sl (xs := jenc s.rs) 0 rfl).isSome hw (at_some hjb)) (fun hA => ?_)
      refine at_know (fun _ hw => hw.slCap 0 rfl) (fun hcb => ?_)
      refine at_know (fun _ hw => hw.slCap 1 rfl) (fun hc5 => ?_)
      refine at_draw1 (.fl 0 (.fl 1 (.fl 2 (.fl 3 (.fl 4 (.fl 5 (.fl 6 (.fl 7 (.fl 8 (.fl 9 (.fl 14 (.ef 10 (.fl 11 (.fl 12 (.ef2 13 (.ef 15 (.fl 16 (.fl 17 (.fl 18 (.fl 19 (.ef 20 .nil)))))) 15 (.fl 16 (.fl 17 (.ef 13 (.fl 18 (.fl 19 (.ef 20 .nil))))))))))))))))))))) (by kernel_rfl) (by kernel_rfl) ?_
      refine wt_read rfl rfl rfl rfl (yl_move rfl rfl) ?_
      refine wt_read rfl rfl rfl rfl (yl_move rfl rfl) ?_
      refine wt_read rfl rfl rfl rfl (yl_add rfl rfl rfl (w64 (by omega) (by omega))) ?_
      refine wt_read rfl rfl rfl rfl (yl_move rfl rfl) ?_
      refine wt_read rfl rfl rfl rfl (yl_quo rfl rfl rfl (by decide) (w64 hq.1 hq.2)) ?_
      refine wt_read rfl rfl rfl rfl (yl_move rfl rfl) ?_
      refine wt_read rfl rfl rfl rfl (yl_move rfl rfl) ?_
      refine wt_read rfl rfl rfl rfl (yl_index rfl rfl rfl (Rd.of_sl (xs := out5) 0 rfl) (at_some hko) rfl rfl Try.underlying22 (by kernel_rfl) rfl) ?_
      refine wt_read rfl rfl rfl rfl (yl_load rfl rfl Try.underlying30 rfl ((Rd.of_sl (xs := out5) 0 rfl).cell2 (at_some hko) (i := 0) rfl)) ?_
      refine wt_read rfl rfl rfl rfl (yl_len rfl rfl Try.underlying30) ?_
      refine wt_read rfl rfl rfl rfl (yl_move rfl rfl) ?_
      refine wt_call rfl rfl rfl rfl (en_call rfl rfl) (mod_fn _ _ _ _ (by omega) (by omega)) ?_
      rintro _ _ ⟨rfl, rfl⟩
      refine ⟨⟨[_], rfl⟩, ?_⟩
      rw [hj0]
      refine wt_read rfl rfl rfl rfl (yl_add (r := ((((jenc (s.rs.take k0)).length + 2 + j0) : Nat) : Int)) rfl rfl rfl (by rw [w64 (by omega) (by omega)]; omega)) ?_
      refine wt_read rfl rfl rfl rfl (yl_indexS (α := UInt8) (j := ((jenc (s.rs.take k0)).length + 2 + j0)) rfl rfl rfl hA rfl hjb Try.underlying30 (by kernel_rfl) rfl) ?_
      refine wt_two ?_ ?_
      ·
        refine wt_readE rfl rfl rfl rfl (yl_load rfl rfl Try.underlying5 rfl ((Rd.of_sl (xs := jenc s.rs) 0 rfl).cell2 (at_some hjb) (i := 0) rfl)) ⟨[_], rfl⟩ ?_
        refine wt_call rfl rfl rfl rfl (en_call rfl rfl) (mod_fn _ _ _ _ (by decide) (by decide)) ?_
        rintro _ _ ⟨rfl, rfl⟩
        refine ⟨⟨[_], rfl⟩, ?_⟩
        refine wt_read rfl rfl rfl rfl (yl_add rfl rfl rfl (w64 (by omega) (by omega))) ?_
        refine wt_read rfl rfl rfl rfl (yl_conv rfl rfl rfl Try.underlying5 hyb) ?_
        refine wt_read rfl rfl rfl rfl (yl_xor rfl rfl rfl (xor8_ex _ _)) ?_
        refine wt_read rfl rfl rfl rfl (yl_indexS (α := UInt8) (j := ((jenc (s.rs.take k0)).length + 2 + j0)) rfl rfl rfl hA rfl hjb Try.underlying30 (by kernel_rfl) rfl) ?_
        refine wt_store rfl rfl rfl (es_at0 (es_storeSl (xs := jenc s.rs) (j := ((jenc (s.rs.take k0)).length + 2 + j0)) (i := 0) 0 (at_ (jenc s.rs) ((jenc (s.rs.take k0)).length + 2 + j0) ^^^ yb) rfl rfl rfl rfl (by kernel_rfl) rfl (at_some hjb) rfl rfl)) ⟨[_], rfl⟩ ?_
        refine wt_nil ?_
        refine at_keep (Keep.cons 1 rfl (Keep.cons 2 rfl (Keep.cons 7 rfl (Keep.cons 10 rfl (Keep.cons 11 rfl (Keep.cons 12 rfl (Keep.cons 13 rfl (Keep.cons 14 rfl (Keep.cons 38 rfl (Keep.cons 61 rfl Keep.nil)))))))))) ?_
        refine at_seq ?_
        have hps : prs 20000 ((jenc s.rs).set ((jenc (s.rs.take k0)).length + 2 + j0) (at_ (jenc s.rs) ((jenc (s.rs.take k0)).length + 2 + j0) ^^^ yb)) = s.rs.take k0 := prs_set s.rs hs.ok 20000 k0 j0 hkl (by omega) hjl _ (by rw [at_jenc s.rs k0 j0 hkl hjl]; exact xor_ne _ _ hyn)
        have htk : (s.rs.take k0).length = k0 := by rw [List.length_take]; omega
        have hjt := jenc_take_le s.rs k0
        refine at_draw0 (.fl 0 (.fl 3 (.fl 4 (.fl 5 (.ef 1 (.ef 2 (.ef 6 (.fl 7 .nil)))))))) (by kernel_rfl) (by kernel_rfl) ?_
        refine wt_read rfl rfl rfl rfl (yl_move rfl rfl) ?_
        refine wt_read rfl rfl rfl rfl (yl_move rfl rfl) ?_
        refine wt_read rfl rfl rfl rfl (yl_move rfl rfl) ?_
        refine wt_read rfl rfl rfl rfl (yl_sliceH (xs := out5) (j := k0) rfl rfl rfl rfl (by omega) hc5 Try.underlying22 (by kernel_rfl) rfl) ?_
        refine wt_call rfl rfl rfl rfl (en_call rfl rfl) (open_fnN ((jenc s.rs).set ((jenc (s.rs.take k0)).length + 2 + j0) (at_ (jenc s.rs) ((jenc (s.rs.take k0)).length + 2 + j0) ^^^ yb)) _ (List.length_set ..).symm _ _ _ _ (Rd.of_sl 0 rfl) (by rw [List.length_set]; exact hcb) (by rw [List.length_set]; omega)) ?_
        rintro _ _ ⟨g8, rfl, rfl⟩
        refine ⟨⟨[_], rfl⟩, ?_⟩
        rw [hps]
        refine wt_call rfl rfl rfl rfl (en_call rfl rfl) (records_fn (s.rs.take k0) _ g8 _ _ (by omega) (by omega)) ?_
        rintro _ _ ⟨B8, d8, out8, rfl, ho8, rfl⟩
        refine ⟨⟨[_, _, _], rfl⟩, ?_⟩
        refine wt_call rfl rfl rfl rfl (en_call rfl rfl) (lists_fn out8 (out5.take k0) _ _ _ _ _ _ (Rd.of_sl 0 rfl) ((Rd.of_sl 4 rfl).take _) (fun m hm => Rd.pcs 1 rfl hm) (fun m hm => Rd.pcs 6 rfl (List.mem_of_mem_take hm)) (by rw [recs_take, ho5, ho8]) (by have := len_of_recs ho8; omega)) ?_
        rintro _ _ ⟨rfl, rfl⟩
        refine ⟨⟨[_, _, _], rfl⟩, ?_⟩
        refine wt_read rfl rfl rfl rfl (yl_assign rfl rfl) ?_
        refine wt_nil ?_
        refine at_keep (Keep.cons 1 rfl (Keep.cons 2 rfl (Keep.cons 6 rfl (Keep.cons 7 rfl (Keep.cons 10 rfl (Keep.cons 11 rfl (Keep.cons 12 rfl (Keep.cons 13 rfl (Keep.cons 14 rfl (Keep.cons 38 rfl (Keep.cons 61 rfl Keep.nil))))))))))) ?_
        refine at_retH (fun _ hw => hw.tail.tail.tail.tail.tail.tail.tail) Try.func10 (res1 rfl rfl) ?_
        exact ⟨rfl, rfl⟩
      ·
        refine wt_call rfl rfl rfl rfl (en_call rfl rfl) (mod_fn _ _ _ _ (by decide) (by decide)) ?_
        rintro _ _ ⟨rfl, rfl⟩
        refine ⟨⟨[_], rfl⟩, ?_⟩
        refine wt_read rfl rfl rfl rfl (yl_add rfl rfl rfl (w64 (by omega) (by omega))) ?_
        refine wt_read rfl rfl rfl rfl (yl_conv rfl rfl rfl Try.underlying5 hyb) ?_
        refine wt_readE rfl rfl rfl rfl (yl_load rfl rfl Try.underlying5 rfl ((Rd.of_sl (xs := jenc s.rs) 0 rfl).cell2 (at_some hjb) (i := 0) rfl)) ⟨[_], rfl⟩ ?_
        refine wt_read rfl rfl rfl rfl (yl_xor rfl rfl rfl (xor8_ex _ _)) ?_
        refine wt_read rfl rfl rfl rfl (yl_indexS (α := UInt8) (j := ((jenc (s.rs.take k0)).length + 2 + j0)) rfl rfl rfl hA rfl hjb Try.underlying30 (by kernel_rfl) rfl) ?_
        refine wt_store rfl rfl rfl (es_at0 (es_storeSl (xs := jenc s.rs) (j := ((jenc (s.rs.take k0)).length + 2 + j0)) (i := 0) 0 (at_ (jenc s.rs) ((jenc (s.rs.take k0)).length + 2 + j0) ^^^ yb) rfl rfl rfl rfl (by kernel_rfl) rfl (at_some hjb) rfl rfl)) ⟨[_], rfl⟩ ?_
        refine wt_nil ?_
        refine at_keep (Keep.cons 1 rfl (Keep.cons 2 rfl (Keep.cons 7 rfl (Keep.cons 10 rfl (Keep.cons 11 rfl (Keep.cons 12 rfl (Keep.cons 13 rfl (Keep.cons 14 rfl (Keep.cons 38 rfl (Keep.cons 61 rfl Keep.nil)))))))))) ?_
        refine at_seq ?_
        have hps : prs 20000 ((jenc s.rs).set ((jenc (s.rs.take k0)).length + 2 + j0) (at_ (jenc s.rs) ((jenc (s.rs.take k0)).length + 2 + j0) ^^^ yb)) = s.rs.take k0 := prs_set s.rs hs.ok 20000 k0 j0 hkl (by omega) hjl _ (by rw [at_jenc s.rs k0 j0 hkl hjl]; exact xor_ne _ _ hyn)
        have htk : (s.rs.take k0).length = k0 := by rw [List.length_take]; omega
        have hjt := jenc_take_le s.rs k0
        refine at_draw0 (.fl 0 (.fl 3 (.fl 4 (.fl 5 (.ef 1 (.ef 2 (.ef 6 (.fl 7 .nil)))))))) (by kernel_rfl) (by kernel_rfl) ?_
        refine wt_read rfl rfl rfl rfl (yl_move rfl rfl) ?_
        refine wt_read rfl rfl rfl rfl (yl_move rfl rfl) ?_
        refine wt_read rfl rfl rfl rfl (yl_move rfl rfl) ?_
        refine wt_read rfl rfl rfl rfl (yl_sliceH (xs := out5) (j := k0) rfl rfl rfl rfl (by omega) hc5 Try.underlying22 (by kernel_rfl) rfl) ?_
        refine wt_call rfl rfl rfl rfl (en_call rfl rfl) (open_fnN ((jenc s.rs).set ((jenc (s.rs.take k0)).length + 2 + j0) (at_ (jenc s.rs) ((jenc (s.rs.take k0)).length + 2 + j0) ^^^ yb)) _ (List.length_set ..).symm _ _ _ _ (Rd.of_sl 0 rfl) (by rw [List.length_set]; exact hcb) (by rw [List.length_set]; omega)) ?_
        rintro _ _ ⟨g8, rfl, rfl⟩
        refine ⟨⟨[_], rfl⟩, ?_⟩
        rw [hps]
        refine wt_call rfl rfl rfl rfl (en_call rfl rfl) (records_fn (s.rs.take k0) _ g8 _ _ (by omega) (by omega)) ?_
        rintro _ _ ⟨B8, d8, out8, rfl, ho8, rfl⟩
        refine ⟨⟨[_, _, _], rfl⟩, ?_⟩
        refine wt_call rfl rfl rfl rfl (en_call rfl rfl) (lists_fn out8 (out5.take k0) _ _ _ _ _ _ (Rd.of_sl 0 rfl) ((Rd.of_sl 4 rfl).take _) (fun m hm => Rd.pcs 1 rfl hm) (fun m hm => Rd.pcs 6 rfl (List.mem_of_mem_take hm)) (by rw [recs_take, ho5, ho8]) (by have := len_of_recs ho8; omega)) ?_
        rintro _ _ ⟨rfl, rfl⟩
        refine ⟨⟨[_, _, _], rfl⟩, ?_⟩
        refine wt_read rfl rfl rfl rfl (yl_assign rfl rfl) ?_
        refine wt_nil ?_
        refine at_keep (Keep.cons 1 rfl (Keep.cons 2 rfl (Keep.cons 6 rfl (Keep.cons 7 rfl (Keep.cons 10 rfl (Keep.cons 11 rfl (Keep.cons 12 rfl (Keep.cons 13 rfl (Keep.cons 14 rfl (Keep.cons 38 rfl (Keep.cons 61 rfl Keep.nil))))))))))) ?_
        refine at_retH (fun _ hw => hw.tail.tail.tail.tail.tail.tail.tail) Try.func10 (res1 rfl rfl) ?_
        exact ⟨rfl, rfl⟩
end Go.Proofs.Yteecjaiklpkhaaa

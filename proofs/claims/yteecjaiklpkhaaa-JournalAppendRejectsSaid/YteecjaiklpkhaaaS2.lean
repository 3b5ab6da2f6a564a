/- Walks of the laws on crashes. -/
import Derived.Test.YteecjaiklpkhaaaS
namespace Go.Proofs.Yteecjaiklpkhaaa
open Go

theorem rec_cut {s : Sc} {n : Nat} (h : JOk s n) (hn : n ≤ 20000) (N : Nat) : ∃ q, q ≤ s.rs.length ∧ prs 20000 ((jenc s.rs).take N) = s.rs.take q ∧ ∀ m, m ≤ s.rs.length → ((jenc (s.rs.take m)).length ≤ N ↔ m ≤ q) :=
  prs_take s.rs 20000 N h.ok (by have := h.len; omega)
theorem cutN0 (rs : List (List UInt8)) (fl : Nat) (h : fl ≤ (jenc rs).length) : cutN rs fl 0 = fl := by unfold cutN; omega
theorem cut_full (rs : List (List UInt8)) : (jenc rs).take (cutN rs (jenc rs).length 0) = jenc rs := by rw [cutN0 _ _ (Nat.le_refl _), List.take_length]
theorem recs_take (l : List (Mem UInt8)) (n : Nat) : recs (l.take n) = (recs l).take n := by unfold recs; rw [List.map_take]
theorem len_of_recs {l : List (Mem UInt8)} {rs : List (List UInt8)} (h : recs l = rs) : l.length = rs.length := by rw [← h]; simp [recs]

theorem law8 (l : List (Mem UInt8)) (A : Option Addr) (c : Nat) (fs : List Bool) (A2 : Option Addr) (c2 : Nat) (k : Int) (hk : I64 k) (b : World) (H : List Asr) (hR : Rd H A l) (hE : ∀ m, m ∈ l → Rd H m.A m.xs) (hR2 : Rd H A2 fs) : Fn Try.prog 8 [.slice A l.length c, .slice A2 fs.length c2, .int .i64 k] b H (fun v H' => v = .bool true ∧ H = H') := by
  have hm := md_bd k 500 (by decide)
  have hk2 : I64 (md k 500) := ⟨by omega, by omega⟩
  refine fn_of_at (by kernel_rfl) Try.func8 rfl Try.ntmps8 rfl rfl ?_
  refine at_seq ?_
  refine at_region ?_
  refine wl_read rfl rfl rfl (yl_assign rfl rfl) ?_
  refine wl_nil ?_
  refine at_keep (Keep.cons 0 rfl (Keep.cons 1 rfl (Keep.cons 2 rfl (Keep.cons 6 rfl Keep.nil)))) ?_
  refine at_seq ?_
  refine at_region ?_
  refine wl_read rfl rfl rfl (yl_move rfl rfl) ?_
  refine wl_read rfl rfl rfl (yl_move rfl rfl) ?_
  refine wl_call rfl rfl rfl (en_call rfl rfl) (fill_fn l A c fs A2 c2 _ _ hR hE hR2) ?_
  rintro _ _ ⟨g, r, s, hs, rfl, rfl⟩
  refine wl_read rfl rfl rfl (yl_move rfl rfl) ?_
  refine wl_read rfl rfl rfl (yl_extract rfl rfl rfl) ?_
  refine wl_read rfl rfl rfl (yl_extract rfl rfl rfl) ?_
  refine wl_read rfl rfl rfl (yl_extract rfl rfl rfl) ?_
  refine wl_read rfl rfl rfl (yl_assign rfl rfl) ?_
  refine wl_read rfl rfl rfl (yl_assign rfl rfl) ?_
  refine wl_read rfl rfl rfl (yl_assign rfl rfl) ?_
  refine wl_nil ?_
  refine at_keep (Keep.cons 0 rfl (Keep.cons 1 rfl (Keep.cons 2 rfl (Keep.cons 6 rfl (Keep.cons 7 rfl (Keep.cons 9 rfl Keep.nil)))))) ?_
  refine at_seq ?_
  refine at_seq ?_
  refine at_region ?_
  refine wl_read rfl rfl rfl (yl_move rfl rfl) ?_
  refine wl_read rfl rfl rfl (yl_notT rfl rfl) ?_
  refine wl_read rfl rfl rfl (yl_move rfl rfl) ?_
  refine wl_call rfl rfl rfl (en_call rfl rfl) (awake_fn _ _) ?_
  rintro _ _ ⟨rfl, rfl⟩
  refine wl_read rfl rfl rfl (yl_notT rfl rfl) ?_
  refine wl_read rfl rfl rfl (yl_pickF rfl rfl rfl) ?_
  refine wl_nil ?_
  refine at_keep (Keep.cons 0 rfl (Keep.cons 1 rfl (Keep.cons 2 rfl (Keep.cons 6 rfl (Keep.cons 7 rfl (Keep.cons 9 rfl (Keep.cons 26 rfl Keep.nil))))))) ?_
  refine at_false rfl ?_
  refine at_skip ?_
  refine at_seq ?_
  have hby := hs.bytes
  have hfl := hs.flle
  have hlen := hs.len
  obtain ⟨q0, hq0, he0, hm0⟩ := rec_cut hs (by decide) (cutN s.rs s.fl 0)
  obtain ⟨q1, hq1, he1, hm1⟩ := rec_cut hs (by decide) (cutN s.rs s.fl (md k 500))
  have hc1 := cutN_le s.rs s.fl (md k 500) hfl
  have hq01 : q0 ≤ q1 := by
    have h1 := (hm0 q0 hq0).2 (Nat.le_refl _)
    rw [cutN0 _ _ hfl] at h1
    exact (hm1 q0 hq0).1 (by omega)
  have ht0 : (s.rs.take q0).length = q0 := by rw [List.length_take]; omega
  have ht1 : (s.rs.take q1).length = q1 := by rw [List.length_take]; omega
  have hj1 := jenc_take_le s.rs q1
  refine at_region ?_
  refine wl_read rfl rfl rfl (yl_move rfl rfl) ?_
  refine wl_call rfl rfl rfl (en_call rfl rfl) (crash_fn s.rs s.fl g _ _ 0 ⟨by decide, by decide⟩ hfl (by omega)) ?_
  rintro _ _ ⟨A5, c5, rfl, rfl⟩
  refine wl_know (fun _ hw => hw.slCap 0 rfl) (fun hcap5 => ?_)
  refine wl_call rfl rfl rfl (en_call rfl rfl) (open_fn ((jenc s.rs).take (cutN s.rs s.fl 0)) _ _ _ _ (Rd.of_sl 0 rfl) hcap5 (by rw [List.length_take]; omega)) ?_
  rintro _ _ ⟨g5, rfl, rfl⟩
  rw [he0]
  refine wl_call rfl rfl rfl (en_call rfl rfl) (len_fn (s.rs.take q0) _ g5 _ _) ?_
  rintro _ _ ⟨rfl, rfl⟩
  refine wl_read rfl rfl rfl (yl_assign rfl rfl) ?_
  refine wl_nil ?_
  refine at_keep (Keep.cons 0 rfl (Keep.cons 1 rfl (Keep.cons 2 rfl (Keep.cons 6 rfl (Keep.cons 7 rfl (Keep.cons 9 rfl (Keep.cons 10 rfl (Keep.cons 26 rfl Keep.nil)))))))) ?_
  refine at_seq ?_
  refine at_region ?_
  refine wl_read rfl rfl rfl (yl_move rfl rfl) ?_
  refine wl_read rfl rfl rfl (yl_move rfl rfl) ?_
  refine wl_call rfl rfl rfl (en_call rfl rfl) (mod_fn _ _ _ _ (by decide) (by decide)) ?_
  rintro _ _ ⟨rfl, rfl⟩
  refine wl_heap (fun _ hw => hw.front2) ?_
  refine wl_call rfl rfl rfl (en_call rfl rfl) (crash_fn s.rs s.fl g _ _ (md k 500) hk2 hfl (by omega)) ?_
  rintro _ _ ⟨A6, c6, rfl, rfl⟩
  refine wl_know (fun _ hw => hw.slCap 0 rfl) (fun hcap6 => ?_)
  refine wl_call rfl rfl rfl (en_call rfl rfl) (open_fn ((jenc s.rs).take (cutN s.rs s.fl (md k 500))) _ _ _ _ (Rd.of_sl 0 rfl) hcap6 (by rw [List.length_take]; omega)) ?_
  rintro _ _ ⟨g6, rfl, rfl⟩
  rw [he1]
  refine wl_read rfl rfl rfl (yl_assign rfl rfl) ?_
  refine wl_nil ?_
  refine at_keep (Keep.cons 0 rfl (Keep.cons 1 rfl (Keep.cons 2 rfl (Keep.cons 6 rfl (Keep.cons 7 rfl (Keep.cons 9 rfl (Keep.cons 10 rfl (Keep.cons 11 rfl (Keep.cons 26 rfl Keep.nil))))))))) ?_
  refine at_seq ?_
  refine at_region ?_
  refine wl_read rfl rfl rfl (yl_move rfl rfl) ?_
  refine wl_heap (fun _ hw => hw.front2) ?_
  refine wl_call rfl rfl rfl (en_call rfl rfl) (records_fn s.rs s.fl g _ _ (by omega) (by omega)) ?_
  rintro _ _ ⟨B7, d7, out7, rfl, ho7, rfl⟩
  refine wl_read rfl rfl rfl (yl_move rfl rfl) ?_
  refine wl_heap (fun _ hw => hw.front3) ?_
  refine wl_call rfl rfl rfl (en_call rfl rfl) (records_fn (s.rs.take q1) (jenc (s.rs.take q1)).length g6 _ _ (by omega) (by omega)) ?_
  rintro _ _ ⟨B8, d8, out8, rfl, ho8, rfl⟩
  refine wl_read rfl rfl rfl (yl_assign rfl rfl) ?_
  refine wl_read rfl rfl rfl (yl_assign rfl rfl) ?_
  refine wl_nil ?_
  refine at_keep (Keep.cons 0 rfl (Keep.cons 1 rfl (Keep.cons 2 rfl (Keep.cons 6 rfl (Keep.cons 7 rfl (Keep.cons 9 rfl (Keep.cons 10 rfl (Keep.cons 11 rfl (Keep.cons 12 rfl (Keep.cons 13 rfl (Keep.cons 26 rfl Keep.nil))))))))))) ?_
  refine at_seq ?_
  refine at_seq ?_
  have hl7 := len_of_recs ho7
  have hl8 := len_of_recs ho8
  refine at_region ?_
  refine wl_read rfl rfl rfl (yl_move rfl rfl) ?_
  refine wl_read rfl rfl rfl (yl_len rfl rfl Try.underlying22) ?_
  refine wl_read rfl rfl rfl (yl_move rfl rfl) ?_
  refine wl_read rfl rfl rfl (yl_len rfl rfl Try.underlying22) ?_
  refine wl_read rfl rfl rfl ((yp_gtr rfl rfl rfl).2 (by omega)) ?_
  refine wl_read rfl rfl rfl (yl_move rfl rfl) ?_
  refine wl_read rfl rfl rfl (yl_move rfl rfl) ?_
  refine wl_read rfl rfl rfl (yl_len rfl rfl Try.underlying22) ?_
  refine wl_read rfl rfl rfl (yl_move rfl rfl) ?_
  refine wl_read rfl rfl rfl ((yp_lss rfl rfl rfl).2 (by omega)) ?_
  refine wl_read rfl rfl rfl (yl_pickF rfl rfl rfl) ?_
  refine wl_read rfl rfl rfl (yl_move rfl rfl) ?_
  refine wl_read rfl rfl rfl (yl_move rfl rfl) ?_
  refine wl_heap (fun _ hw => hw.front2) ?_
  refine wl_call rfl rfl rfl (en_call rfl rfl) (flushed_fn (s.rs.take q1) _ g6 _ _) ?_
  rintro _ _ ⟨rfl, rfl⟩
  refine wl_read rfl rfl rfl (yl_move rfl rfl) ?_
  refine wl_call rfl rfl rfl (en_call rfl rfl) (bytesJ_fn (s.rs.take q1) _ g6 _ _ (by omega)) ?_
  rintro _ _ ⟨B9, d9, rfl, rfl⟩
  refine wl_read rfl rfl rfl (yl_len rfl rfl Try.underlying30) ?_
  refine wl_read rfl rfl rfl ((yp_neq rfl rfl rfl).2 (fun h => h rfl)) ?_
  refine wl_read rfl rfl rfl (yl_pickF rfl rfl rfl) ?_
  refine wl_nil ?_
  refine at_keep (Keep.cons 0 rfl (Keep.cons 1 rfl (Keep.cons 2 rfl (Keep.cons 6 rfl (Keep.cons 7 rfl (Keep.cons 9 rfl (Keep.cons 10 rfl (Keep.cons 11 rfl (Keep.cons 12 rfl (Keep.cons 13 rfl (Keep.cons 26 rfl (Keep.cons 58 rfl Keep.nil)))))))))))) ?_
  refine at_false rfl ?_
  refine at_skip ?_
  refine at_seq ?_
  refine at_heap (fun _ hw => hw.front4) ?_
  refine at_know (fun _ hw => hw.slCap 0 rfl) (fun hcap7 => ?_)
  refine at_region ?_
  refine wl_read rfl rfl rfl (yl_move rfl rfl) ?_
  refine wl_read rfl rfl rfl (yl_move rfl rfl) ?_
  refine wl_read rfl rfl rfl (yl_len rfl rfl Try.underlying22) ?_
  refine wl_read rfl rfl rfl (yl_sliceH (xs := out7) (j := out8.length) rfl rfl rfl rfl (by omega) hcap7 Try.underlying22 (by kernel_rfl) rfl) ?_
  refine wl_read rfl rfl rfl (yl_move rfl rfl) ?_
  refine wl_call rfl rfl rfl (en_call rfl rfl) (lists_fn (out7.take out8.length) out8 _ _ _ _ _ _ ((Rd.of_sl 0 rfl).take _) (Rd.of_sl 3 rfl) (fun m hm => Rd.pcs 5 rfl (List.mem_of_mem_take hm)) (fun m hm => Rd.pcs 4 rfl hm) (by rw [recs_take, ho7, ho8, hl8, ht1]) (by rw [List.length_take]; omega)) ?_
  rintro _ _ ⟨rfl, rfl⟩
  refine wl_read rfl rfl rfl (yl_assign rfl rfl) ?_
  refine wl_nil ?_
  refine at_keep (Keep.cons 0 rfl (Keep.cons 1 rfl (Keep.cons 2 rfl (Keep.cons 6 rfl (Keep.cons 7 rfl (Keep.cons 9 rfl (Keep.cons 10 rfl (Keep.cons 11 rfl (Keep.cons 12 rfl (Keep.cons 13 rfl (Keep.cons 26 rfl (Keep.cons 58 rfl Keep.nil)))))))))))) ?_
  refine at_retH (fun _ hw => hw.tail.tail.tail.tail.tail.tail.tail.tail.tail.tail.tail.tail) Try.func8 (res1 rfl rfl) ?_
  exact ⟨rfl, rfl⟩
theorem law9 (l : List (Mem UInt8)) (A : Option Addr) (c : Nat) (l2 : List (Mem UInt8)) (A3 : Option Addr) (c3 : Nat) (fs : List Bool) (A2 : Option Addr) (c2 : Nat) (k : Int) (hk : I64 k) (b : World) (H : List Asr) (hR : Rd H A l) (hE : ∀ m, m ∈ l → Rd H m.A m.xs) (hR3 : Rd H A3 l2) (hE3 : ∀ m, m ∈ l2 → Rd H m.A m.xs) (hR2 : Rd H A2 fs) : Fn Try.prog 9 [.slice A l.length c, .slice A3 l2.length c3, .slice A2 fs.length c2, .int .i64 k] b H (fun v H' => v = .bool true ∧ H = H') := by
  have hm := md_bd k 300 (by decide)
  have hk2 : I64 (md k 300) := ⟨by omega, by omega⟩
  refine fn_of_at (by kernel_rfl) Try.func9 rfl Try.ntmps9 rfl rfl ?_
  refine at_seq ?_
  refine at_region ?_
  refine wl_read rfl rfl rfl (yl_assign rfl rfl) ?_
  refine wl_nil ?_
  refine at_keep (Keep.cons 0 rfl (Keep.cons 1 rfl (Keep.cons 2 rfl (Keep.cons 3 rfl (Keep.cons 8 rfl Keep.nil))))) ?_
  refine at_seq ?_
  refine at_region ?_
  refine wl_read rfl rfl rfl (yl_move rfl rfl) ?_
  refine wl_read rfl rfl rfl (yl_move rfl rfl) ?_
  refine wl_call rfl rfl rfl (en_call rfl rfl) (fill_fn l A c fs A2 c2 _ _ hR hE hR2) ?_
  rintro _ _ ⟨g, r, s, hs, rfl, rfl⟩
  refine wl_read rfl rfl rfl (yl_move rfl rfl) ?_
  refine wl_read rfl rfl rfl (yl_extract rfl rfl rfl) ?_
  refine wl_read rfl rfl rfl (yl_extract rfl rfl rfl) ?_
  refine wl_read rfl rfl rfl (yl_extract rfl rfl rfl) ?_
  refine wl_read rfl rfl rfl (yl_assign rfl rfl) ?_
  refine wl_read rfl rfl rfl (yl_assign rfl rfl) ?_
  refine wl_read rfl rfl rfl (yl_assign rfl rfl) ?_
  refine wl_nil ?_
  refine at_keep (Keep.cons 0 rfl (Keep.cons 1 rfl (Keep.cons 2 rfl (Keep.cons 3 rfl (Keep.cons 8 rfl (Keep.cons 9 rfl (Keep.cons 11 rfl Keep.nil))))))) ?_
  refine at_seq ?_
  refine at_seq ?_
  have hby := hs.bytes
  have hfl := hs.flle
  have hlen := hs.len
  have hall : prs 20000 (jenc s.rs) = s.rs := prs_all hs.ok (by omega)
  refine at_region ?_
  refine wl_read rfl rfl rfl (yl_move rfl rfl) ?_
  refine wl_read rfl rfl rfl (yl_notT rfl rfl) ?_
  refine wl_read rfl rfl rfl (yl_move rfl rfl) ?_
  refine wl_call rfl rfl rfl (en_call rfl rfl) (awake_fn _ _) ?_
  rintro _ _ ⟨rfl, rfl⟩
  refine wl_read rfl rfl rfl (yl_notT rfl rfl) ?_
  refine wl_read rfl rfl rfl (yl_pickF rfl rfl rfl) ?_
  refine wl_read rfl rfl rfl (yl_move rfl rfl) ?_
  refine wl_read rfl rfl rfl (yl_move rfl rfl) ?_
  refine wl_call rfl rfl rfl (en_call rfl rfl) (bytesJ_fn s.rs s.fl g _ _ (by omega)) ?_
  rintro _ _ ⟨A5, c5, rfl, rfl⟩
  refine wl_know (fun _ hw => hw.slCap 0 rfl) (fun hcap5 => ?_)
  refine wl_call rfl rfl rfl (en_call rfl rfl) (open_fn (jenc s.rs) _ _ _ _ (Rd.of_sl 0 rfl) hcap5 (by omega)) ?_
  rintro _ _ ⟨g5, rfl, rfl⟩
  rw [hall]
  refine wl_call rfl rfl rfl (en_call rfl rfl) (records_fn s.rs _ g5 _ _ (by omega) (by omega)) ?_
  rintro _ _ ⟨B5, d5, out5, rfl, ho5, rfl⟩
  refine wl_read rfl rfl rfl (yl_move rfl rfl) ?_
  refine wl_heap (fun _ hw => hw.front4) ?_
  refine wl_call rfl rfl rfl (en_call rfl rfl) (records_fn s.rs s.fl g _ _ (by omega) (by omega)) ?_
  rintro _ _ ⟨B6, d6, out6, rfl, ho6, rfl⟩
  refine wl_call rfl rfl rfl (en_call rfl rfl) (lists_fn out5 out6 _ _ _ _ _ _ (Rd.of_sl 3 rfl) (Rd.of_sl 0 rfl) (fun m hm => Rd.pcs 4 rfl hm) (fun m hm => Rd.pcs 1 rfl hm) (ho5.trans ho6.symm) (by have := len_of_recs ho5; omega)) ?_
  rintro _ _ ⟨rfl, rfl⟩
  refine wl_read rfl rfl rfl (yl_notT rfl rfl) ?_
  refine wl_read rfl rfl rfl (yl_pickF rfl rfl rfl) ?_
  refine wl_nil ?_
  refine at_keep (Keep.cons 0 rfl (Keep.cons 1 rfl (Keep.cons 2 rfl (Keep.cons 3 rfl (Keep.cons 8 rfl (Keep.cons 9 rfl (Keep.cons 11 rfl (Keep.cons 38 rfl Keep.nil)))))))) ?_
  refine at_false rfl ?_
  refine at_skip ?_
  refine at_seq ?_
  obtain ⟨q, hq, he, hmq⟩ := rec_cut hs (by decide) (cutN s.rs s.fl (md k 300))
  have hc1 := cutN_le s.rs s.fl (md k 300) hfl
  have htq : (s.rs.take q).length = q := by rw [List.length_take]; omega
  have hjq := jenc_take_le s.rs q
  refine at_region ?_
  refine wl_read rfl rfl rfl (yl_move rfl rfl) ?_
  refine wl_read rfl rfl rfl (yl_move rfl rfl) ?_
  refine wl_call rfl rfl rfl (en_call rfl rfl) (mod_fn _ _ _ _ (by decide) (by decide)) ?_
  rintro _ _ ⟨rfl, rfl⟩
  refine wl_heap (fun _ hw => hw.front2) ?_
  refine wl_call rfl rfl rfl (en_call rfl rfl) (crash_fn s.rs s.fl g _ _ (md k 300) hk2 hfl (by omega)) ?_
  rintro _ _ ⟨A7, c7, rfl, rfl⟩
  refine wl_know (fun _ hw => hw.slCap 0 rfl) (fun hcap7 => ?_)
  refine wl_call rfl rfl rfl (en_call rfl rfl) (open_fn ((jenc s.rs).take (cutN s.rs s.fl (md k 300))) _ _ _ _ (Rd.of_sl 0 rfl) hcap7 (by rw [List.length_take]; omega)) ?_
  rintro _ _ ⟨g7, rfl, rfl⟩
  rw [he]
  refine wl_read rfl rfl rfl (yl_assign rfl rfl) ?_
  refine wl_nil ?_
  refine at_keep (Keep.cons 0 rfl (Keep.cons 1 rfl (Keep.cons 2 rfl (Keep.cons 3 rfl (Keep.cons 8 rfl (Keep.cons 9 rfl (Keep.cons 11 rfl (Keep.cons 12 rfl (Keep.cons 38 rfl Keep.nil))))))))) ?_
  refine at_seq ?_
  refine at_region ?_
  refine wl_read rfl rfl rfl (yl_move rfl rfl) ?_
  refine wl_call rfl rfl rfl (en_call rfl rfl) (len_fn (s.rs.take q) _ g7 _ _) ?_
  rintro _ _ ⟨rfl, rfl⟩
  refine wl_read rfl rfl rfl (yl_assign rfl rfl) ?_
  refine wl_nil ?_
  refine at_keep (Keep.cons 0 rfl (Keep.cons 1 rfl (Keep.cons 2 rfl (Keep.cons 3 rfl (Keep.cons 8 rfl (Keep.cons 9 rfl (Keep.cons 11 rfl (Keep.cons 12 rfl (Keep.cons 13 rfl (Keep.cons 38 rfl Keep.nil)))))))))) ?_
  refine at_seq ?_
  refine at_region ?_
  refine wl_read rfl rfl rfl (yl_assign rfl rfl) ?_
  refine wl_nil ?_
  refine at_keep (Keep.cons 0 rfl (Keep.cons 1 rfl (Keep.cons 2 rfl (Keep.cons 3 rfl (Keep.cons 8 rfl (Keep.cons 9 rfl (Keep.cons 11 rfl (Keep.cons 12 rfl (Keep.cons 13 rfl (Keep.cons 14 rfl (Keep.cons 38 rfl Keep.nil))))))))))) ?_
  refine at_seq ?_
  refine at_seq ?_
  refine at_heap (fun _ hw => hw.drop1.drop1.drop1.drop1.drop1.drop1.drop1.drop1.drop1.drop1) ?_
  refine at_region ?_
  refine wl_read rfl rfl rfl (yl_assign rfl rfl) ?_
  refine wl_nil ?_
  refine at_keep (Keep.cons 0 rfl (Keep.cons 1 rfl (Keep.cons 2 rfl (Keep.cons 3 rfl (Keep.cons 8 rfl (Keep.cons 9 rfl (Keep.cons 11 rfl (Keep.cons 12 rfl (Keep.cons 13 rfl (Keep.cons 14 rfl (Keep.cons 15 rfl (Keep.cons 38 rfl Keep.nil)))))))))))) ?_
  refine at_block ?_
  refine at_keep (L' := (fun (i : Nat) (a : Nat) (rs3 : List (List UInt8)) => [(1, .slice A3 l2.length c3), (12, .pointer (some ⟨g7, 0, none⟩)), (13, .int .i64 ((s.rs.take q).length : Int)), (14, .int .i64 (a : Int)), (15, .int .i64 (i : Int))]) 0 0 (s.rs.take q)) (Keep.consEq 1 rfl rfl (Keep.consEq 12 rfl rfl (Keep.consEq 13 rfl rfl (Keep.consEq 14 rfl rfl (Keep.consEq 15 rfl rfl Keep.nil))))) ?_
  refine at_loop3 (fun (i : Nat) (a : Nat) (rs3 : List (List UInt8)) => i ≤ 10 ∧ a ≤ i ∧ rs3.length = (s.rs.take q).length + a ∧ ∀ r, r ∈ rs3 → okR r) (fun (i : Nat) (a : Nat) (rs3 : List (List UInt8)) => [(1, .slice A3 l2.length c3), (12, .pointer (some ⟨g7, 0, none⟩)), (13, .int .i64 ((s.rs.take q).length : Int)), (14, .int .i64 (a : Int)), (15, .int .i64 (i : Int))]) (fun (i : Nat) (a : Nat) (rs3 : List (List UInt8)) => Jn g7 rs3 (jenc (s.rs.take q)).length :: H) (fun (i : Nat) (a : Nat) (rs3 : List (List UInt8)) => l2.length - i) 0 0 (s.rs.take q) ⟨by omega, by omega, rfl, fun r hr => hs.ok r (List.mem_of_mem_take hr)⟩ ?_
  intro i a rs3 hI0 ih
  obtain ⟨hI1, hI2, hI3, hI4⟩ := hI0
  have hj3 := jenc_le hI4
  refine at_seq ?_
  refine at_seq ?_
  refine at_region ?_
  refine wl_read rfl rfl rfl (yl_move rfl rfl) ?_
  refine wl_read rfl rfl rfl (yl_move rfl rfl) ?_
  refine wl_read rfl rfl rfl (yl_len rfl rfl Try.underlying22) ?_
  refine wl_split rfl rfl rfl (yp_lss rfl rfl rfl) ?_ ?_
  · intro h8_3
    refine wl_read rfl rfl rfl (yl_move rfl rfl) ?_
    refine wl_read rfl rfl rfl (yl_move rfl rfl) ?_
    refine wl_split rfl rfl rfl (yp_lss rfl rfl rfl) ?_ ?_
    · intro h8_6
      refine wl_read rfl rfl rfl (yl_pickT rfl rfl rfl) ?_
      refine wl_nil ?_
      refine at_keep (Keep.cons 1 rfl (Keep.cons 12 rfl (Keep.cons 13 rfl (Keep.cons 14 rfl (Keep.cons 15 rfl (Keep.cons 53 rfl Keep.nil)))))) ?_
      refine at_true rfl ?_
      refine at_skip ?_
      refine at_seq ?_
      refine at_block ?_
      refine at_seq ?_
      have hi : i < l2.length := by omega
      refine at_region ?_
      refine wl_read rfl rfl rfl (yl_move rfl rfl) ?_
      refine wl_read rfl rfl rfl (yl_move rfl rfl) ?_
      refine wl_read rfl rfl rfl (yl_move rfl rfl) ?_
      refine wl_read rfl rfl rfl (yl_index rfl rfl rfl (hR3.cons _) (at_some hi) rfl rfl Try.underlying22 (by kernel_rfl) rfl) ?_
      refine wl_read rfl rfl rfl (yl_load rfl rfl Try.underlying30 rfl ((hR3.cons _).cell2 (at_some hi) (i := 0) rfl)) ?_
      refine wl_call rfl rfl rfl (en_call rfl rfl) (append_any rs3 (jenc (s.rs.take q)).length g7 _ _ (at_ l2 i).xs _ _ (by omega) (by omega) (hE3 _ (at_in hi))) ?_
      rintro _ _ (⟨hok, rfl, rfl⟩ | ⟨hok, rfl, rfl⟩)
      ·
        refine wl_read rfl rfl rfl ((yp_eql rfl rfl rfl).1 rfl) ?_
        refine wl_nil ?_
        refine at_keep (Keep.cons 1 rfl (Keep.cons 12 rfl (Keep.cons 13 rfl (Keep.cons 14 rfl (Keep.cons 15 rfl (Keep.cons 53 rfl (Keep.cons 62 rfl Keep.nil))))))) ?_
        refine at_true rfl ?_
        refine at_region ?_
        refine wl_read rfl rfl rfl (yl_move rfl rfl) ?_
        refine wl_read rfl rfl rfl (yl_add rfl rfl rfl (w64 (by omega) (by omega))) ?_
        refine wl_read rfl rfl rfl (yl_assign rfl rfl) ?_
        refine wl_nil ?_
        refine at_keep (Keep.cons 1 rfl (Keep.cons 12 rfl (Keep.cons 13 rfl (Keep.cons 14 rfl (Keep.cons 15 rfl (Keep.cons 53 rfl (Keep.cons 62 rfl Keep.nil))))))) ?_
        refine at_inBlock ?_
        refine at_region ?_
        refine wl_read rfl rfl rfl (yl_move rfl rfl) ?_
        refine wl_read rfl rfl rfl (yl_add rfl rfl rfl (w64 (by omega) (by omega))) ?_
        refine wl_read rfl rfl rfl (yl_assign rfl rfl) ?_
        refine wl_nil ?_
        refine at_keep (Keep.cons 1 rfl (Keep.cons 12 rfl (Keep.cons 13 rfl (Keep.cons 14 rfl (Keep.cons 15 rfl (Keep.cons 53 rfl (Keep.cons 62 rfl Keep.nil))))))) ?_
        exact at_keep (L' := (fun (i : Nat) (a : Nat) (rs3 : List (List UInt8)) => [(1, .slice A3 l2.length c3), (12, .pointer (some ⟨g7, 0, none⟩)), (13, .int .i64 ((s.rs.take q).length : Int)), (14, .int .i64 (a : Int)), (15, .int .i64 (i : Int))]) (i + 1) (a + 1) (rs3 ++ [(at_ l2 i).xs])) (Keep.consEq 1 rfl rfl (Keep.consEq 12 rfl rfl (Keep.consEq 13 rfl rfl (Keep.consEq 14 rfl rfl (Keep.consEq 15 rfl rfl Keep.nil))))) (ih (i + 1) (a + 1) (rs3 ++ [(at_ l2 i).xs]) ⟨by omega, by omega, by rw [List.length_append, List.length_singleton]; omega, fun r hr => by
    rcases List.mem_append.1 hr with hr | hr
    · exact hI4 r hr
    · simp at hr; subst hr; exact hok⟩ (by omega))
      ·
        refine wl_read rfl rfl rfl ((yp_eql rfl rfl rfl).2 (by decide)) ?_
        refine wl_nil ?_
        refine at_keep (Keep.cons 1 rfl (Keep.cons 12 rfl (Keep.cons 13 rfl (Keep.cons 14 rfl (Keep.cons 15 rfl (Keep.cons 53 rfl (Keep.cons 62 rfl Keep.nil))))))) ?_
        refine at_false rfl ?_
        refine at_skip ?_
        refine at_inBlock ?_
        refine at_region ?_
        refine wl_read rfl rfl rfl (yl_move rfl rfl) ?_
        refine wl_read rfl rfl rfl (yl_add rfl rfl rfl (w64 (by omega) (by omega))) ?_
        refine wl_read rfl rfl rfl (yl_assign rfl rfl) ?_
        refine wl_nil ?_
        refine at_keep (Keep.cons 1 rfl (Keep.cons 12 rfl (Keep.cons 13 rfl (Keep.cons 14 rfl (Keep.cons 15 rfl (Keep.cons 53 rfl (Keep.cons 62 rfl Keep.nil))))))) ?_
        exact at_keep (L' := (fun (i : Nat) (a : Nat) (rs3 : List (List UInt8)) => [(1, .slice A3 l2.length c3), (12, .pointer (some ⟨g7, 0, none⟩)), (13, .int .i64 ((s.rs.take q).length : Int)), (14, .int .i64 (a : Int)), (15, .int .i64 (i : Int))]) (i + 1) a rs3) (Keep.consEq 1 rfl rfl (Keep.consEq 12 rfl rfl (Keep.consEq 13 rfl rfl (Keep.consEq 14 rfl rfl (Keep.consEq 15 rfl rfl Keep.nil))))) (ih (i + 1) a rs3 ⟨by omega, by omega, hI3, hI4⟩ (by omega))
    · intro h8_6
      refine wl_read rfl rfl rfl (yl_pickT rfl rfl rfl) ?_
      refine wl_nil ?_
      refine at_keep (Keep.cons 1 rfl (Keep.cons 12 rfl (Keep.cons 13 rfl (Keep.cons 14 rfl (Keep.cons 15 rfl (Keep.cons 53 rfl Keep.nil)))))) ?_
      refine at_false rfl ?_
      refine at_exit rfl ?_
      refine at_seq ?_
      refine at_region ?_
      refine wl_read rfl rfl rfl (yl_move rfl rfl) ?_
      refine wl_call rfl rfl rfl (en_call rfl rfl) (flush_fn rs3 (jenc (s.rs.take q)).length g7 _ _) ?_
      rintro _ _ ⟨rfl, rfl⟩
      refine wl_nil ?_
      refine at_keep (Keep.cons 1 rfl (Keep.cons 12 rfl (Keep.cons 13 rfl (Keep.cons 14 rfl (Keep.cons 15 rfl (Keep.cons 53 rfl Keep.nil)))))) ?_
      refine at_seq ?_
      have hall3 : prs 20000 (jenc rs3) = rs3 := prs_all hI4 (by omega)
      refine at_region ?_
      refine wl_read rfl rfl rfl (yl_move rfl rfl) ?_
      refine wl_call rfl rfl rfl (en_call rfl rfl) (crash_fn rs3 (jenc rs3).length g7 _ _ 0 ⟨by decide, by decide⟩ (Nat.le_refl _) (by omega)) ?_
      rintro _ _ ⟨A8, c8, rfl, rfl⟩
      rw [cut_full]
      refine wl_know (fun _ hw => hw.slCap 0 rfl) (fun hcap8 => ?_)
      refine wl_call rfl rfl rfl (en_call rfl rfl) (open_fn (jenc rs3) _ _ _ _ (Rd.of_sl 0 rfl) hcap8 (by omega)) ?_
      rintro _ _ ⟨g8, rfl, rfl⟩
      rw [hall3]
      refine wl_call rfl rfl rfl (en_call rfl rfl) (len_fn rs3 _ g8 _ _) ?_
      rintro _ _ ⟨rfl, rfl⟩
      refine wl_read rfl rfl rfl (yl_move rfl rfl) ?_
      refine wl_read rfl rfl rfl (yl_move rfl rfl) ?_
      refine wl_read rfl rfl rfl (yl_add rfl rfl rfl (w64 (by omega) (by omega))) ?_
      refine wl_read rfl rfl rfl ((yp_eql rfl rfl rfl).1 (by omega)) ?_
      refine wl_read rfl rfl rfl (yl_move rfl rfl) ?_
      refine wl_read rfl rfl rfl (yl_move rfl rfl) ?_
      refine wl_heap (fun _ hw => hw.front2) ?_
      refine wl_call rfl rfl rfl (en_call rfl rfl) (bytesJ_fn rs3 _ g7 _ _ (by omega)) ?_
      rintro _ _ ⟨A9, c9, rfl, rfl⟩
      refine wl_know (fun _ hw => hw.slCap 0 rfl) (fun hcap9 => ?_)
      refine wl_call rfl rfl rfl (en_call rfl rfl) (open_fn (jenc rs3) _ _ _ _ (Rd.of_sl 0 rfl) hcap9 (by omega)) ?_
      rintro _ _ ⟨g9, rfl, rfl⟩
      rw [hall3]
      refine wl_call rfl rfl rfl (en_call rfl rfl) (records_fn rs3 _ g9 _ _ (by omega) (by omega)) ?_
      rintro _ _ ⟨B7, d7, out7, rfl, ho7, rfl⟩
      refine wl_read rfl rfl rfl (yl_move rfl rfl) ?_
      refine wl_heap (fun _ hw => hw.front4) ?_
      refine wl_call rfl rfl rfl (en_call rfl rfl) (records_fn rs3 _ g7 _ _ (by omega) (by omega)) ?_
      rintro _ _ ⟨B8, d8, out8, rfl, ho8, rfl⟩
      refine wl_call rfl rfl rfl (en_call rfl rfl) (lists_fn out7 out8 _ _ _ _ _ _ (Rd.of_sl 3 rfl) (Rd.of_sl 0 rfl) (fun m hm => Rd.pcs 4 rfl hm) (fun m hm => Rd.pcs 1 rfl hm) (ho7.trans ho8.symm) (by have := len_of_recs ho7; omega)) ?_
      rintro _ _ ⟨rfl, rfl⟩
      refine wl_read rfl rfl rfl (yl_pickT rfl rfl rfl) ?_
      refine wl_read rfl rfl rfl (yl_assign rfl rfl) ?_
      refine wl_nil ?_
      refine at_keep (Keep.cons 1 rfl (Keep.cons 8 rfl (Keep.cons 12 rfl (Keep.cons 13 rfl (Keep.cons 14 rfl (Keep.cons 15 rfl (Keep.cons 53 rfl Keep.nil))))))) ?_
      refine at_retH (fun _ hw => hw.tail.tail.tail.tail.tail.tail.tail.tail.tail) Try.func9 (res1 rfl rfl) ?_
      exact ⟨rfl, rfl⟩
  · intro h8_3
    refine wl_read rfl rfl rfl (yl_move rfl rfl) ?_
    refine wl_skip rfl rfl rfl ?_
    refine wl_skip rfl rfl rfl ?_
    refine wl_read rfl rfl rfl (yl_pickF rfl rfl rfl) ?_
    refine wl_nil ?_
    refine at_keep (Keep.cons 1 rfl (Keep.cons 12 rfl (Keep.cons 13 rfl (Keep.cons 14 rfl (Keep.cons 15 rfl (Keep.cons 53 rfl Keep.nil)))))) ?_
    refine at_false rfl ?_
    refine at_exit rfl ?_
    refine at_seq ?_
    refine at_region ?_
    refine wl_read rfl rfl rfl (yl_move rfl rfl) ?_
    refine wl_call rfl rfl rfl (en_call rfl rfl) (flush_fn rs3 (jenc (s.rs.take q)).length g7 _ _) ?_
    rintro _ _ ⟨rfl, rfl⟩
    refine wl_nil ?_
    refine at_keep (Keep.cons 1 rfl (Keep.cons 12 rfl (Keep.cons 13 rfl (Keep.cons 14 rfl (Keep.cons 15 rfl (Keep.cons 53 rfl Keep.nil)))))) ?_
    refine at_seq ?_
    have hall3 : prs 20000 (jenc rs3) = rs3 := prs_all hI4 (by omega)
    refine at_region ?_
    refine wl_read rfl rfl rfl (yl_move rfl rfl) ?_
    refine wl_call rfl rfl rfl (en_call rfl rfl) (crash_fn rs3 (jenc rs3).length g7 _ _ 0 ⟨by decide, by decide⟩ (Nat.le_refl _) (by omega)) ?_
    rintro _ _ ⟨A8, c8, rfl, rfl⟩
    rw [cut_full]
    refine wl_know (fun _ hw => hw.slCap 0 rfl) (fun hcap8 => ?_)
    refine wl_call rfl rfl rfl (en_call rfl rfl) (open_fn (jenc rs3) _ _ _ _ (Rd.of_sl 0 rfl) hcap8 (by omega)) ?_
    rintro _ _ ⟨g8, rfl, rfl⟩
    rw [hall3]
    refine wl_call rfl rfl rfl (en_call rfl rfl) (len_fn rs3 _ g8 _ _) ?_
    rintro _ _ ⟨rfl, rfl⟩
    refine wl_read rfl rfl rfl (yl_move rfl rfl) ?_
    refine wl_read rfl rfl rfl (yl_move rfl rfl) ?_
    refine wl_read rfl rfl rfl (yl_add rfl rfl rfl (w64 (by omega) (by omega))) ?_
    refine wl_read rfl rfl rfl ((yp_eql rfl rfl rfl).1 (by omega)) ?_
    refine wl_read rfl rfl rfl (yl_move rfl rfl) ?_
    refine wl_read rfl rfl rfl (yl_move rfl rfl) ?_
    refine wl_heap (fun _ hw => hw.front2) ?_
    refine wl_call rfl rfl rfl (en_call rfl rfl) (bytesJ_fn rs3 _ g7 _ _ (by omega)) ?_
    rintro _ _ ⟨A9, c9, rfl, rfl⟩
    refine wl_know (fun _ hw => hw.slCap 0 rfl) (fun hcap9 => ?_)
    refine wl_call rfl rfl rfl (en_call rfl rfl) (open_fn (jenc rs3) _ _ _ _ (Rd.of_sl 0 rfl) hcap9 (by omega)) ?_
    rintro _ _ ⟨g9, rfl, rfl⟩
    rw [hall3]
    refine wl_call rfl rfl rfl (en_call rfl rfl) (records_fn rs3 _ g9 _ _ (by omega) (by omega)) ?_
    rintro _ _ ⟨B7, d7, out7, rfl, ho7, rfl⟩
    refine wl_read rfl rfl rfl (yl_move rfl rfl) ?_
    refine wl_heap (fun _ hw => hw.front4) ?_
    refine wl_call rfl rfl rfl (en_call rfl rfl) (records_fn rs3 _ g7 _ _ (by omega) (by omega)) ?_
    rintro _ _ ⟨B8, d8, out8, rfl, ho8, rfl⟩
    refine wl_call rfl rfl rfl (en_call rfl rfl) (lists_fn out7 out8 _ _ _ _ _ _ (Rd.of_sl 3 rfl) (Rd.of_sl 0 rfl) (fun m hm => Rd.pcs 4 rfl hm) (fun m hm => Rd.pcs 1 rfl hm) (ho7.trans ho8.symm) (by have := len_of_recs ho7; omega)) ?_
    rintro _ _ ⟨rfl, rfl⟩
    refine wl_read rfl rfl rfl (yl_pickT rfl rfl rfl) ?_
    refine wl_read rfl rfl rfl (yl_assign rfl rfl) ?_
    refine wl_nil ?_
    refine at_keep (Keep.cons 1 rfl (Keep.cons 8 rfl (Keep.cons 12 rfl (Keep.cons 13 rfl (Keep.cons 14 rfl (Keep.cons 15 rfl (Keep.cons 53 rfl Keep.nil))))))) ?_
    refine at_retH (fun _ hw => hw.tail.tail.tail.tail.tail.tail.tail.tail.tail) Try.func9 (res1 rfl rfl) ?_
    exact ⟨rfl, rfl⟩
end Go.Proofs.Yteecjaiklpkhaaa

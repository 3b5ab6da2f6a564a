/- Walks of the opening of the reference, of fill, same and awake. -/
import Derived.Test.YteecjaiklpkhaaaD
namespace Go.Proofs.Yteecjaiklpkhaaa
open Go

/-- What the reference has read, and what is left. -/
structure RI (bs : List UInt8) (ws pl : List (Mem UInt8)) (d : List UInt8) : Prop where
  len : ws.length ≤ 20000
  ok : ∀ r, r ∈ recs ws → okR r
  inp : ∀ m, m ∈ ws → m ∈ pl
  le : d.length ≤ bs.length
  eq : prs 20000 bs = recs ws ++ prs (20000 - ws.length) d
theorem RI.zero (bs : List UInt8) : RI bs [] [] bs := ⟨by simp, by simp [recs], by simp, Nat.le_refl _, by simp [recs]⟩
theorem recs_len (ws : List (Mem UInt8)) : (recs ws).length = ws.length := by simp [recs]
theorem RI.size {bs : List UInt8} {ws pl : List (Mem UInt8)} {d : List UInt8} (h : RI bs ws pl d) : (jenc (recs ws)).length ≤ 8120000 := by
  have h1 := jenc_le h.ok
  have h2 := h.len
  rw [recs_len] at h1
  omega
theorem RI.step {bs : List UInt8} {ws pl : List (Mem UInt8)} {d : List UInt8} (h : RI bs ws pl d) (hn : ws.length < 20000) (hg : good d) (A : Option Addr) (c : Nat) : RI bs (ws ++ [⟨A, c, rec1 d⟩]) (⟨A, c, rec1 d⟩ :: pl) (d.drop (6 + nn d)) := by
  refine ⟨by rw [List.length_append, List.length_singleton]; omega, fun r hr => ?_, fun m hm => ?_, by rw [List.length_drop]; have := h.le; omega, ?_⟩
  · simp only [recs, List.map_append, List.mem_append] at hr
    rcases hr with hr | hr
    · exact h.ok r hr
    · simp at hr; subst hr; exact good_okR hg
  · rcases List.mem_append.1 hm with hm | hm
    · exact List.mem_cons_of_mem _ (h.inp m hm)
    · simp at hm; subst hm; exact List.mem_cons_self
  · rw [h.eq]
    obtain ⟨k, hk⟩ : ∃ k, 20000 - ws.length = k + 1 := ⟨20000 - ws.length - 1, by omega⟩
    rw [hk, prs_good hg k, List.length_append, List.length_singleton, show 20000 - (ws.length + 1) = k by omega]
    simp [recs]
theorem RI.full {bs : List UInt8} {ws pl : List (Mem UInt8)} {d : List UInt8} (h : RI bs ws pl d) (hn : 20000 ≤ ws.length) : recs ws = prs 20000 bs := by
  rw [h.eq, show 20000 - ws.length = 0 by omega]; simp [prs]
theorem RI.stop {bs : List UInt8} {ws pl : List (Mem UInt8)} {d : List UInt8} (h : RI bs ws pl d) (hg : ¬ good d) : recs ws = prs 20000 bs := by
  rw [h.eq, prs_bad hg, List.append_nil]

theorem ropen_fn (bs : List UInt8) (A : Option Addr) (c : Nat) (b : World) (H : List Asr) (hR : Rd H A bs) (hcap : bs.length ≤ c) (hbig : bs.length ≤ 140737488351232) : Fn Try.prog 27 [.slice A bs.length c] b H
    (fun v H' => ∃ g ws pl, v = .pointer (some ⟨g, 0, none⟩) ∧ recs ws = prs 20000 bs ∧ (∀ m, m ∈ ws → m ∈ pl) ∧ H' = Rj g ws (jenc (recs ws)).length :: Pool pl :: H) := by
  refine fn_of_at (by kernel_rfl) Try.func27 rfl Try.ntmps27 rfl rfl ?_
  refine at_seq ?_
  refine at_region ?_
  refine wl_read rfl rfl rfl (yl_assign rfl rfl) ?_
  refine wl_nil ?_
  refine at_keep (Keep.cons 0 rfl (Keep.cons 2 rfl Keep.nil)) ?_
  refine at_seq ?_
  refine at_region ?_
  refine wl_read rfl rfl rfl (yl_build (cs := [.slice none 0 0, .slice none 0 0, .int .i64 0]) rfl rfl (fun _ => by kernel_rfl)) ?_
  refine wl_eff rfl rfl rfl (ef_box rfl rfl rfl) ?_
  rintro _ _ ⟨g, rfl, rfl⟩
  refine wl_read rfl rfl rfl (yl_assign rfl rfl) ?_
  refine wl_nil ?_
  refine at_keep (Keep.cons 0 rfl (Keep.cons 2 rfl (Keep.cons 3 rfl Keep.nil))) ?_
  refine at_seq ?_
  refine at_block ?_
  refine at_keep (L' := (fun (ws : List (Mem UInt8)) (pl : List (Mem UInt8)) (A9 : Option Addr) (c9 : Nat) (d : List UInt8) => [(0, .slice A9 d.length c9), (3, .pointer (some ⟨g, 0, none⟩))]) [] [] A c bs) (Keep.consEq 0 rfl rfl (Keep.consEq 3 rfl rfl Keep.nil)) ?_
  refine at_heap (fun _ hw => (Holds.poolNil (α := UInt8) (Rj.closes (ws := []) (fl := 0) ((hw.nilSl (α := Mem UInt8) 30).nilSl (α := UInt8) 5).front2)).front1) ?_
  refine at_loop5 (fun (ws : List (Mem UInt8)) (pl : List (Mem UInt8)) (A9 : Option Addr) (c9 : Nat) (d : List UInt8) => RI bs ws pl d ∧ Rd H A9 d ∧ d.length ≤ c9) (fun (ws : List (Mem UInt8)) (pl : List (Mem UInt8)) (A9 : Option Addr) (c9 : Nat) (d : List UInt8) => [(0, .slice A9 d.length c9), (3, .pointer (some ⟨g, 0, none⟩))]) (fun (ws : List (Mem UInt8)) (pl : List (Mem UInt8)) (A9 : Option Addr) (c9 : Nat) (d : List UInt8) => Rj g ws 0 :: Pool pl :: H) (fun (ws : List (Mem UInt8)) (pl : List (Mem UInt8)) (A9 : Option Addr) (c9 : Nat) (d : List UInt8) => 20000 - ws.length) [] [] A c bs ⟨RI.zero bs, hR, hcap⟩ ?_
  intro ws pl A9 c9 d hI ih
  obtain ⟨hr, hRd, hdc⟩ := hI
  have hsz := hr.size
  have hle := hr.le
  refine at_seq ?_
  refine at_seq ?_
  refine at_open (fun _ hw => Rj.opens hw) (fun x => ?_)
  obtain ⟨⟨A5, c5⟩, ⟨A6, c6⟩⟩ := x
  refine at_region ?_
  refine wl_read rfl rfl rfl (yl_move rfl rfl) ?_
  refine wl_read rfl rfl rfl (yl_len rfl rfl Try.underlying30) ?_
  refine wl_split rfl rfl rfl (yp_geq rfl rfl rfl) ?_ ?_
  · intro h2_2
    refine wl_read rfl rfl rfl (yl_move rfl rfl) ?_
    refine wl_read rfl rfl rfl (yl_move rfl rfl) ?_
    refine wl_read rfl rfl rfl (yl_nilCheck rfl rfl) ?_
    refine wl_read rfl rfl rfl (yl_fieldB rfl rfl Try.underlying50 rfl (by kernel_rfl) rfl) ?_
    refine wl_read rfl rfl rfl (yl_load rfl rfl Try.underlying22 rfl (CellAt.bk 0 rfl rfl)) ?_
    refine wl_read rfl rfl rfl (yl_len rfl rfl Try.underlying22) ?_
    refine wl_split rfl rfl rfl (yp_lss rfl rfl rfl) ?_ ?_
    · intro h2_9
      refine wl_read rfl rfl rfl (yl_pickT rfl rfl rfl) ?_
      refine wl_nil ?_
      refine at_keep (Keep.cons 0 rfl (Keep.cons 3 rfl (Keep.cons 17 rfl Keep.nil))) ?_
      refine at_true rfl ?_
      refine at_skip ?_
      refine at_block ?_
      refine at_seq ?_
      refine at_heap (fun _ hw => hw.front2.front2.front2) ?_
      refine at_heap (fun _ hw => Rj.closes (ws := ws) (fl := 0) hw) ?_
      have hd2 : 2 ≤ d.length := by omega
      have hnm := nm2 d hd2
      have hn1 := (at_ d 0).toNat_lt
      have hn2 := (at_ d 1).toNat_lt
      have hnd : nn d < 65536 := by unfold nn; omega
      refine at_region ?_
      refine wl_read rfl rfl rfl (yl_move rfl rfl) ?_
      refine wl_read rfl rfl rfl (yl_sliceH (xs := d) (j := 2) rfl rfl rfl rfl (by omega) hdc Try.underlying30 (by kernel_rfl) rfl) ?_
      refine wl_call rfl rfl rfl (en_call rfl rfl) (num_fn (d.take 2) _ _ _ _ (((hRd.cons _).cons _).take _) (by rw [List.length_take]; omega)) ?_
      rintro _ _ ⟨rfl, rfl⟩
      rw [hnm]
      refine wl_read rfl rfl rfl (yl_assign rfl rfl) ?_
      refine wl_nil ?_
      refine at_keep (Keep.cons 0 rfl (Keep.cons 3 rfl (Keep.cons 4 rfl (Keep.cons 17 rfl Keep.nil)))) ?_
      refine at_seq ?_
      refine at_seq ?_
      refine at_draw0 (.fl 0 (.fl 1 (.fl 2 (.fl 3 (.fl 4 (.fl 5 (.fl 6 (.fl 7 (.fl 8 (.fl 9 (.fl 10 (.fl 11 (.fl 12 (.fl 13 (.fl 14 (.fl 15 (.fl 16 (.fl 17 (.fl 18 (.fl 19 (.fl 22 (.fl 23 (.fl 24 (.fl 25 (.ef 20 (.fl 21 (.ef 26 (.fl 27 (.fl 28 .nil))))))))))))))))))))))))))))) (by kernel_rfl) (by kernel_rfl) ?_
      refine wt_read rfl rfl rfl rfl (yl_move rfl rfl) ?_
      refine wt_split rfl rfl rfl rfl (yp_lss rfl rfl rfl) ?_ ?_
      · intro h4_1
        refine wt_read rfl rfl rfl rfl (yl_move rfl rfl) ?_
        refine wt_skip rfl rfl rfl rfl ?_
        refine wt_skip rfl rfl rfl rfl ?_
        refine wt_read rfl rfl rfl rfl (yl_pickT rfl rfl rfl) ?_
        refine wt_read rfl rfl rfl rfl (yl_move rfl rfl) ?_
        refine wt_skip rfl rfl rfl rfl ?_
        refine wt_skip rfl rfl rfl rfl ?_
        refine wt_skip rfl rfl rfl rfl ?_
        refine wt_skip rfl rfl rfl rfl ?_
        refine wt_skip rfl rfl rfl rfl ?_
        refine wt_read rfl rfl rfl rfl (yl_pickT rfl rfl rfl) ?_
        refine wt_read rfl rfl rfl rfl (yl_move rfl rfl) ?_
        refine wt_skip rfl rfl rfl rfl ?_
        refine wt_skip rfl rfl rfl rfl ?_
        refine wt_skip rfl rfl rfl rfl ?_
        refine wt_skip rfl rfl rfl rfl ?_
        refine wt_skip rfl rfl rfl rfl ?_
        refine wt_skip rfl rfl rfl rfl ?_
        refine wt_skip rfl rfl rfl rfl ?_
        refine wt_skip rfl rfl rfl rfl ?_
        refine wt_skip rfl rfl rfl rfl ?_
        refine wt_skip rfl rfl rfl rfl ?_
        refine wt_skipE rfl rfl rfl rfl ⟨[], rfl⟩ ?_
        refine wt_skip rfl rfl rfl rfl ?_
        refine wt_skipE rfl rfl rfl rfl ⟨[], rfl⟩ ?_
        refine wt_skip rfl rfl rfl rfl ?_
        refine wt_read rfl rfl rfl rfl (yl_pickT rfl rfl rfl) ?_
        refine wt_nil ?_
        refine at_keep (Keep.cons 0 rfl (Keep.cons 3 rfl (Keep.cons 4 rfl (Keep.cons 17 rfl (Keep.cons 49 rfl Keep.nil))))) ?_
        refine at_true rfl ?_
        refine at_exit rfl ?_
        refine at_seq ?_
        have hpr : recs ws = prs 20000 bs := hr.stop (fun hgd => by
          have hg1 := hgd.1
          have hg2 := hgd.2.1
          have hg3 := hgd.2.2.1
          first | omega | (have hg4 := (nm_be4 hsl hcr).2 (h4s.trans hgd.2.2.2); omega))
        refine at_region ?_
        refine wl_read rfl rfl rfl (yl_move rfl rfl) ?_
        refine wl_call rfl rfl rfl (en_call rfl rfl) (rsync_fn ws 0 g _ _) ?_
        rintro _ _ ⟨rfl, rfl⟩
        refine wl_nil ?_
        refine at_keep (Keep.cons 0 rfl (Keep.cons 3 rfl (Keep.cons 4 rfl (Keep.cons 17 rfl (Keep.cons 49 rfl Keep.nil))))) ?_
        refine at_seq ?_
        refine at_region ?_
        refine wl_read rfl rfl rfl (yl_move rfl rfl) ?_
        refine wl_read rfl rfl rfl (yl_assign rfl rfl) ?_
        refine wl_nil ?_
        refine at_keep (Keep.cons 0 rfl (Keep.cons 2 rfl (Keep.cons 3 rfl (Keep.cons 4 rfl (Keep.cons 17 rfl (Keep.cons 49 rfl Keep.nil)))))) ?_
        refine at_ret Try.func27 (res1 rfl rfl) ?_
        exact ⟨g, ws, pl, rfl, hpr, hr.inp, rfl⟩
      · intro h4_1
        refine wt_read rfl rfl rfl rfl (yl_move rfl rfl) ?_
        refine wt_read rfl rfl rfl rfl (yl_move rfl rfl) ?_
        refine wt_split rfl rfl rfl rfl (yp_gtr rfl rfl rfl) ?_ ?_
        · intro h4_4
          refine wt_read rfl rfl rfl rfl (yl_pickF rfl rfl rfl) ?_
          refine wt_read rfl rfl rfl rfl (yl_move rfl rfl) ?_
          refine wt_skip rfl rfl rfl rfl ?_
          refine wt_skip rfl rfl rfl rfl ?_
          refine wt_skip rfl rfl rfl rfl ?_
          refine wt_skip rfl rfl rfl rfl ?_
          refine wt_skip rfl rfl rfl rfl ?_
          refine wt_read rfl rfl rfl rfl (yl_pickT rfl rfl rfl) ?_
          refine wt_read rfl rfl rfl rfl (yl_move rfl rfl) ?_
          refine wt_skip rfl rfl rfl rfl ?_
          refine wt_skip rfl rfl rfl rfl ?_
          refine wt_skip rfl rfl rfl rfl ?_
          refine wt_skip rfl rfl rfl rfl ?_
          refine wt_skip rfl rfl rfl rfl ?_
          refine wt_skip rfl rfl rfl rfl ?_
          refine wt_skip rfl rfl rfl rfl ?_
          refine wt_skip rfl rfl rfl rfl ?_
          refine wt_skip rfl rfl rfl rfl ?_
          refine wt_skip rfl rfl rfl rfl ?_
          refine wt_skipE rfl rfl rfl rfl ⟨[], rfl⟩ ?_
          refine wt_skip rfl rfl rfl rfl ?_
          refine wt_skipE rfl rfl rfl rfl ⟨[], rfl⟩ ?_
          refine wt_skip rfl rfl rfl rfl ?_
          refine wt_read rfl rfl rfl rfl (yl_pickT rfl rfl rfl) ?_
          refine wt_nil ?_
          refine at_keep (Keep.cons 0 rfl (Keep.cons 3 rfl (Keep.cons 4 rfl (Keep.cons 17 rfl (Keep.cons 49 rfl Keep.nil))))) ?_
          refine at_true rfl ?_
          refine at_exit rfl ?_
          refine at_seq ?_
          have hpr : recs ws = prs 20000 bs := hr.stop (fun hgd => by
            have hg1 := hgd.1
            have hg2 := hgd.2.1
            have hg3 := hgd.2.2.1
            first | omega | (have hg4 := (nm_be4 hsl hcr).2 (h4s.trans hgd.2.2.2); omega))
          refine at_region ?_
          refine wl_read rfl rfl rfl (yl_move rfl rfl) ?_
          refine wl_call rfl rfl rfl (en_call rfl rfl) (rsync_fn ws 0 g _ _) ?_
          rintro _ _ ⟨rfl, rfl⟩
          refine wl_nil ?_
          refine at_keep (Keep.cons 0 rfl (Keep.cons 3 rfl (Keep.cons 4 rfl (Keep.cons 17 rfl (Keep.cons 49 rfl Keep.nil))))) ?_
          refine at_seq ?_
          refine at_region ?_
          refine wl_read rfl rfl rfl (yl_move rfl rfl) ?_
          refine wl_read rfl rfl rfl (yl_assign rfl rfl) ?_
          refine wl_nil ?_
          refine at_keep (Keep.cons 0 rfl (Keep.cons 2 rfl (Keep.cons 3 rfl (Keep.cons 4 rfl (Keep.cons 17 rfl (Keep.cons 49 rfl Keep.nil)))))) ?_
          refine at_ret Try.func27 (res1 rfl rfl) ?_
          exact ⟨g, ws, pl, rfl, hpr, hr.inp, rfl⟩
        · intro h4_4
          refine wt_read rfl rfl rfl rfl (yl_pickF rfl rfl rfl) ?_
          refine wt_read rfl rfl rfl rfl (yl_move rfl rfl) ?_
          refine wt_read rfl rfl rfl rfl (yl_move rfl rfl) ?_
          refine wt_read rfl rfl rfl rfl (yl_len rfl rfl Try.underlying30) ?_
          refine wt_read rfl rfl rfl rfl (yl_move rfl rfl) ?_
          refine wt_read rfl rfl rfl rfl (yl_add rfl rfl rfl (w64 (by omega) (by omega))) ?_
          refine wt_split rfl rfl rfl rfl (yp_lss rfl rfl rfl) ?_ ?_
          · intro h4_11
            refine wt_read rfl rfl rfl rfl (yl_pickF rfl rfl rfl) ?_
            refine wt_read rfl rfl rfl rfl (yl_move rfl rfl) ?_
            refine wt_skip rfl rfl rfl rfl ?_
            refine wt_skip rfl rfl rfl rfl ?_
            refine wt_skip rfl rfl rfl rfl ?_
            refine wt_skip rfl rfl rfl rfl ?_
            refine wt_skip rfl rfl rfl rfl ?_
            refine wt_skip rfl rfl rfl rfl ?_
            refine wt_skip rfl rfl rfl rfl ?_
            refine wt_skip rfl rfl rfl rfl ?_
            refine wt_skip rfl rfl rfl rfl ?_
            refine wt_skip rfl rfl rfl rfl ?_
            refine wt_skipE rfl rfl rfl rfl ⟨[], rfl⟩ ?_
            refine wt_skip rfl rfl rfl rfl ?_
            refine wt_skipE rfl rfl rfl rfl ⟨[], rfl⟩ ?_
            refine wt_skip rfl rfl rfl rfl ?_
            refine wt_read rfl rfl rfl rfl (yl_pickT rfl rfl rfl) ?_
            refine wt_nil ?_
            refine at_keep (Keep.cons 0 rfl (Keep.cons 3 rfl (Keep.cons 4 rfl (Keep.cons 17 rfl (Keep.cons 49 rfl Keep.nil))))) ?_
            refine at_true rfl ?_
            refine at_exit rfl ?_
            refine at_seq ?_
            have hpr : recs ws = prs 20000 bs := hr.stop (fun hgd => by
              have hg1 := hgd.1
              have hg2 := hgd.2.1
              have hg3 := hgd.2.2.1
              first | omega | (have hg4 := (nm_be4 hsl hcr).2 (h4s.trans hgd.2.2.2); omega))
            refine at_region ?_
            refine wl_read rfl rfl rfl (yl_move rfl rfl) ?_
            refine wl_call rfl rfl rfl (en_call rfl rfl) (rsync_fn ws 0 g _ _) ?_
            rintro _ _ ⟨rfl, rfl⟩
            refine wl_nil ?_
            refine at_keep (Keep.cons 0 rfl (Keep.cons 3 rfl (Keep.cons 4 rfl (Keep.cons 17 rfl (Keep.cons 49 rfl Keep.nil))))) ?_
            refine at_seq ?_
            refine at_region ?_
            refine wl_read rfl rfl rfl (yl_move rfl rfl) ?_
            refine wl_read rfl rfl rfl (yl_assign rfl rfl) ?_
            refine wl_nil ?_
            refine at_keep (Keep.cons 0 rfl (Keep.cons 2 rfl (Keep.cons 3 rfl (Keep.cons 4 rfl (Keep.cons 17 rfl (Keep.cons 49 rfl Keep.nil)))))) ?_
            refine at_ret Try.func27 (res1 rfl rfl) ?_
            exact ⟨g, ws, pl, rfl, hpr, hr.inp, rfl⟩
          · intro h4_11
            refine wt_read rfl rfl rfl rfl (yl_pickF rfl rfl rfl) ?_
            refine wt_read rfl rfl rfl rfl (yl_move rfl rfl) ?_
            refine wt_read rfl rfl rfl rfl (yl_move rfl rfl) ?_
            refine wt_read rfl rfl rfl rfl (yl_move rfl rfl) ?_
            refine wt_read rfl rfl rfl rfl (yl_add rfl rfl rfl (w64 (by omega) (by omega))) ?_
            refine wt_read rfl rfl rfl rfl (yl_move rfl rfl) ?_
            refine wt_read rfl rfl rfl rfl (yl_add rfl rfl rfl (w64 (by omega) (by omega))) ?_
            have hsl : ((d.take (6 + nn d)).drop (2 + nn d)).length = 4 := by rw [List.length_drop, List.length_take]; omega
            have hs4 := nm_small ((d.take (6 + nn d)).drop (2 + nn d)) (by omega)
            have hrl : (rec1 d).length = nn d := by unfold rec1; rw [List.length_take, List.length_drop]; omega
            have hrc : (d.take (2 + nn d)).drop 2 = rec1 d := by have := cut_rec d 0 (nn d) rfl; simpa using this
            have hcr := crc_lt (rec1 d)
            have h4s : (d.take (6 + nn d)).drop (2 + nn d) = (d.drop (2 + nn d)).take 4 := by have := cut_sum d 0 (nn d); simp only [Nat.zero_add, List.drop_zero] at this; rw [← this, show 2 + nn d + 4 = 6 + nn d by omega]
            refine wt_read rfl rfl rfl rfl (yl_sliceLH (xs := d) (j := 2 + nn d) (j2 := 6 + nn d) rfl rfl rfl rfl (by omega) (by omega) (by omega) (by omega) hdc Try.underlying30 (by kernel_rfl) rfl) ?_
            refine wt_read rfl rfl rfl rfl (yl_move rfl rfl) ?_
            refine wt_read rfl rfl rfl rfl (yl_move rfl rfl) ?_
            refine wt_read rfl rfl rfl rfl (yl_add rfl rfl rfl (w64 (by omega) (by omega))) ?_
            refine wt_read rfl rfl rfl rfl (yl_sliceLH (xs := d) (j := 2) (j2 := 2 + nn d) rfl rfl rfl rfl (by omega) (by omega) (by omega) (by omega) hdc Try.underlying30 (by kernel_rfl) rfl) ?_
            refine wt_call rfl rfl rfl rfl (en_call rfl rfl) (num_fn ((d.take (6 + nn d)).drop (2 + nn d)) _ _ _ _ ((((hRd.cons _).cons _).take _).drop _ (by rw [List.length_take]; omega)) (by omega)) ?_
            rintro _ _ ⟨rfl, rfl⟩
            refine ⟨⟨[], rfl⟩, ?_⟩
            refine wt_read rfl rfl rfl rfl (yl_conv rfl rfl rfl Try.underlying59 (wrap32 (by omega))) ?_
            refine wt_call rfl rfl rfl rfl (en_call rfl rfl) (rsum_fn ((d.take (2 + nn d)).drop 2) _ _ _ _ ((((hRd.cons _).cons _).take _).drop _ (by rw [List.length_take]; omega)) (by rw [hrc]; omega)) ?_
            rintro _ _ ⟨rfl, rfl⟩
            refine ⟨⟨[], rfl⟩, ?_⟩
            rw [hrc]
            refine wt_split rfl rfl rfl rfl (yp_neq rfl rfl rfl) ?_ ?_
            · intro h4_27
              refine wt_read rfl rfl rfl rfl (yl_pickF rfl rfl rfl) ?_
              refine wt_nil ?_
              refine at_keep (Keep.cons 0 rfl (Keep.cons 3 rfl (Keep.cons 4 rfl (Keep.cons 17 rfl (Keep.cons 49 rfl Keep.nil))))) ?_
              refine at_true rfl ?_
              refine at_exit rfl ?_
              refine at_seq ?_
              have hpr : recs ws = prs 20000 bs := hr.stop (fun hgd => by
                have hg1 := hgd.1
                have hg2 := hgd.2.1
                have hg3 := hgd.2.2.1
                first | omega | (have hg4 := (nm_be4 hsl hcr).2 (h4s.trans hgd.2.2.2); omega))
              refine at_region ?_
              refine wl_read rfl rfl rfl (yl_move rfl rfl) ?_
              refine wl_call rfl rfl rfl (en_call rfl rfl) (rsync_fn ws 0 g _ _) ?_
              rintro _ _ ⟨rfl, rfl⟩
              refine wl_nil ?_
              refine at_keep (Keep.cons 0 rfl (Keep.cons 3 rfl (Keep.cons 4 rfl (Keep.cons 17 rfl (Keep.cons 49 rfl Keep.nil))))) ?_
              refine at_seq ?_
              refine at_region ?_
              refine wl_read rfl rfl rfl (yl_move rfl rfl) ?_
              refine wl_read rfl rfl rfl (yl_assign rfl rfl) ?_
              refine wl_nil ?_
              refine at_keep (Keep.cons 0 rfl (Keep.cons 2 rfl (Keep.cons 3 rfl (Keep.cons 4 rfl (Keep.cons 17 rfl (Keep.cons 49 rfl Keep.nil)))))) ?_
              refine at_ret Try.func27 (res1 rfl rfl) ?_
              exact ⟨g, ws, pl, rfl, hpr, hr.inp, rfl⟩
            · intro h4_27
              refine wt_read rfl rfl rfl rfl (yl_pickF rfl rfl rfl) ?_
              refine wt_nil ?_
              refine at_keep (Keep.cons 0 rfl (Keep.cons 3 rfl (Keep.cons 4 rfl (Keep.cons 17 rfl (Keep.cons 49 rfl Keep.nil))))) ?_
              refine at_false rfl ?_
              refine at_skip ?_
              refine at_seq ?_
              have hgd : good d := ⟨by omega, by omega, by omega, by rw [← h4s]; exact (nm_be4 hsl hcr).1 (by omega)⟩
              refine at_region ?_
              refine wl_read rfl rfl rfl (yl_move rfl rfl) ?_
              refine wl_read rfl rfl rfl (yl_move rfl rfl) ?_
              refine wl_read rfl rfl rfl (yl_move rfl rfl) ?_
              refine wl_read rfl rfl rfl (yl_add rfl rfl rfl (w64 (by omega) (by omega))) ?_
              refine wl_read rfl rfl rfl (yl_sliceLH (xs := d) (j := 2) (j2 := 2 + nn d) rfl rfl rfl rfl (by omega) (by omega) (by omega) (by omega) hdc Try.underlying30 (by kernel_rfl) rfl) ?_
              refine wl_call rfl rfl rfl (en_call rfl rfl) (rappend_fn ws 0 g _ _ ((d.take (2 + nn d)).drop 2) _ _ (by rw [hrc]; exact good_okR hgd) (by omega) (by omega) (((hRd.cons _).take _).drop _ (by rw [List.length_take]; omega))) ?_
              rintro _ _ ⟨A1, c1, rfl, rfl⟩
              rw [hrc]
              refine wl_nil ?_
              refine at_keep (Keep.cons 0 rfl (Keep.cons 3 rfl (Keep.cons 4 rfl (Keep.cons 17 rfl (Keep.cons 49 rfl Keep.nil))))) ?_
              refine at_heap (fun _ hw => hw.front1.front2.front2) ?_
              refine at_heap (fun _ hw => hw.poolIn.front1) ?_
              refine at_region ?_
              refine wl_read rfl rfl rfl (yl_move rfl rfl) ?_
              refine wl_read rfl rfl rfl (yl_move rfl rfl) ?_
              refine wl_read rfl rfl rfl (yl_add rfl rfl rfl (w64 (by omega) (by omega))) ?_
              refine wl_read rfl rfl rfl (yl_sliceL (xs := d) (j := 6 + nn d) rfl rfl rfl (by omega) (by omega) Try.underlying30 (by kernel_rfl) rfl) ?_
              refine wl_read rfl rfl rfl (yl_assign rfl rfl) ?_
              refine wl_nil ?_
              refine at_keep (Keep.cons 0 rfl (Keep.cons 3 rfl (Keep.cons 4 rfl (Keep.cons 17 rfl (Keep.cons 49 rfl Keep.nil))))) ?_
              refine at_inBlock ?_
              exact at_keep (L' := (fun (ws : List (Mem UInt8)) (pl : List (Mem UInt8)) (A9 : Option Addr) (c9 : Nat) (d : List UInt8) => [(0, .slice A9 d.length c9), (3, .pointer (some ⟨g, 0, none⟩))]) (ws ++ [(⟨A1, c1, rec1 d⟩ : Mem UInt8)]) ((⟨A1, c1, rec1 d⟩ : Mem UInt8) :: pl) (cutA A9 c9 (6 + nn d) 1) (c9 - (6 + nn d)) (d.drop (6 + nn d))) (Keep.consEq 0 rfl rfl (Keep.consEq 3 rfl rfl Keep.nil)) (ih (ws ++ [(⟨A1, c1, rec1 d⟩ : Mem UInt8)]) ((⟨A1, c1, rec1 d⟩ : Mem UInt8) :: pl) (cutA A9 c9 (6 + nn d) 1) (c9 - (6 + nn d)) (d.drop (6 + nn d)) ⟨hr.step (by omega) hgd A1 c1, hRd.drop _ hdc, by rw [List.length_drop]; omega⟩ (by rw [List.length_append, List.length_singleton]; omega))
    · intro h2_9
      refine wl_read rfl rfl rfl (yl_pickT rfl rfl rfl) ?_
      refine wl_nil ?_
      refine at_keep (Keep.cons 0 rfl (Keep.cons 3 rfl (Keep.cons 17 rfl Keep.nil))) ?_
      refine at_false rfl ?_
      refine at_exit rfl ?_
      refine at_seq ?_
      have hpr : recs ws = prs 20000 bs := hr.full (by omega)
      refine at_heap (fun _ hw => hw.front2.front2.front2) ?_
      refine at_heap (fun _ hw => Rj.closes (ws := ws) (fl := 0) hw) ?_
      refine at_region ?_
      refine wl_read rfl rfl rfl (yl_move rfl rfl) ?_
      refine wl_call rfl rfl rfl (en_call rfl rfl) (rsync_fn ws 0 g _ _) ?_
      rintro _ _ ⟨rfl, rfl⟩
      refine wl_nil ?_
      refine at_keep (Keep.cons 0 rfl (Keep.cons 3 rfl (Keep.cons 17 rfl Keep.nil))) ?_
      refine at_seq ?_
      refine at_region ?_
      refine wl_read rfl rfl rfl (yl_move rfl rfl) ?_
      refine wl_read rfl rfl rfl (yl_assign rfl rfl) ?_
      refine wl_nil ?_
      refine at_keep (Keep.cons 0 rfl (Keep.cons 2 rfl (Keep.cons 3 rfl (Keep.cons 17 rfl Keep.nil)))) ?_
      refine at_ret Try.func27 (res1 rfl rfl) ?_
      exact ⟨g, ws, pl, rfl, hpr, hr.inp, rfl⟩
  · intro h2_2
    refine wl_read rfl rfl rfl (yl_move rfl rfl) ?_
    refine wl_skip rfl rfl rfl ?_
    refine wl_skip rfl rfl rfl ?_
    refine wl_skip rfl rfl rfl ?_
    refine wl_skip rfl rfl rfl ?_
    refine wl_skip rfl rfl rfl ?_
    refine wl_skip rfl rfl rfl ?_
    refine wl_read rfl rfl rfl (yl_pickF rfl rfl rfl) ?_
    refine wl_nil ?_
    refine at_keep (Keep.cons 0 rfl (Keep.cons 3 rfl (Keep.cons 17 rfl Keep.nil))) ?_
    refine at_false rfl ?_
    refine at_exit rfl ?_
    refine at_seq ?_
    have hpr : recs ws = prs 20000 bs := hr.stop (bad_short (by omega))
    refine at_heap (fun _ hw => hw.front2.front2.front2) ?_
    refine at_heap (fun _ hw => Rj.closes (ws := ws) (fl := 0) hw) ?_
    refine at_region ?_
    refine wl_read rfl rfl rfl (yl_move rfl rfl) ?_
    refine wl_call rfl rfl rfl (en_call rfl rfl) (rsync_fn ws 0 g _ _) ?_
    rintro _ _ ⟨rfl, rfl⟩
    refine wl_nil ?_
    refine at_keep (Keep.cons 0 rfl (Keep.cons 3 rfl (Keep.cons 17 rfl Keep.nil))) ?_
    refine at_seq ?_
    refine at_region ?_
    refine wl_read rfl rfl rfl (yl_move rfl rfl) ?_
    refine wl_read rfl rfl rfl (yl_assign rfl rfl) ?_
    refine wl_nil ?_
    refine at_keep (Keep.cons 0 rfl (Keep.cons 2 rfl (Keep.cons 3 rfl (Keep.cons 17 rfl Keep.nil)))) ?_
    refine at_ret Try.func27 (res1 rfl rfl) ?_
    exact ⟨g, ws, pl, rfl, hpr, hr.inp, rfl⟩
end Go.Proofs.Yteecjaiklpkhaaa

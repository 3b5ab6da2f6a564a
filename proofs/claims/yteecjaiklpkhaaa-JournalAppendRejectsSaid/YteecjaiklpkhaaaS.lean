/- Walks of awake and of the laws on what a journal tells. -/
import Derived.Test.YteecjaiklpkhaaaF
namespace Go.Proofs.Yteecjaiklpkhaaa
open Go

theorem lenR1 : (jenc ([[97, 98, 99]] : List (List UInt8))).length = 9 := by simp [jenc, fr_length]
theorem lenR2 : (jenc ([[97, 98, 99], [100, 101, 102, 103]] : List (List UInt8))).length = 19 := by simp [jenc, fr_length]
theorem cutR : cutN ([[97, 98, 99], [100, 101, 102, 103]] : List (List UInt8)) (jenc ([[97, 98, 99]] : List (List UInt8))).length 8 = 17 := by unfold cutN; rw [lenR1, lenR2]; decide
theorem prsR : prs 20000 ((jenc ([[97, 98, 99], [100, 101, 102, 103]] : List (List UInt8))).take (cutN ([[97, 98, 99], [100, 101, 102, 103]] : List (List UInt8)) (jenc ([[97, 98, 99]] : List (List UInt8))).length 8)) = ([[97, 98, 99]] : List (List UInt8)) := by
  rw [cutR]
  obtain ⟨q, hq, he, hm⟩ := prs_take ([[97, 98, 99], [100, 101, 102, 103]] : List (List UInt8)) 20000 17 (by decide) (by decide)
  have h1 := (hm 1 (by decide)).1 (by have : ([[97, 98, 99], [100, 101, 102, 103]] : List (List UInt8)).take 1 = ([[97, 98, 99]] : List (List UInt8)) := rfl; rw [this, lenR1]; decide)
  have h2 : ¬ 2 ≤ q := fun h => by
    have h3 := (hm 2 (by decide)).2 h
    have : ([[97, 98, 99], [100, 101, 102, 103]] : List (List UInt8)).take 2 = ([[97, 98, 99], [100, 101, 102, 103]] : List (List UInt8)) := rfl
    rw [this, lenR2] at h3
    omega
  obtain rfl : q = 1 := by omega
  rw [he]; rfl
theorem prs_ok : ∀ (f : Nat) (d r : List UInt8), r ∈ prs f d → okR r
  | 0, _, _, h => by simp [prs] at h
  | f + 1, d, r, h => by
    unfold prs at h
    split at h
    · rename_i hg
      rcases List.mem_cons.1 h with rfl | h
      · exact good_okR hg
      · exact prs_ok f _ r h
    · simp at h
theorem prs_len : ∀ (f : Nat) (d : List UInt8), (prs f d).length ≤ f
  | 0, _ => by simp [prs]
  | f + 1, d => by
    unfold prs
    split
    · have := prs_len f (d.drop (6 + nn d)); simp; omega
    · simp

theorem open_fnN (bs : List UInt8) (n : Nat) (hn : n = bs.length) (A : Option Addr) (c : Nat) (b : World) (H : List Asr) (hR : Rd H A bs) (hcap : bs.length ≤ c) (hbig : bs.length ≤ 140737488351232) : Fn Try.prog 26 [.slice A n c] b H
    (fun v H' => ∃ g, v = .pointer (some ⟨g, 0, none⟩) ∧ H' = Jn g (prs 20000 bs) (jenc (prs 20000 bs)).length :: H) := by subst hn; exact open_fn bs A c b H hR hcap hbig
theorem ropen_fnN (bs : List UInt8) (n : Nat) (hn : n = bs.length) (A : Option Addr) (c : Nat) (b : World) (H : List Asr) (hR : Rd H A bs) (hcap : bs.length ≤ c) (hbig : bs.length ≤ 140737488351232) : Fn Try.prog 27 [.slice A n c] b H
    (fun v H' => ∃ g ws pl, v = .pointer (some ⟨g, 0, none⟩) ∧ recs ws = prs 20000 bs ∧ (∀ m, m ∈ ws → m ∈ pl) ∧ H' = Rj g ws (jenc (recs ws)).length :: Pool pl :: H) := by subst hn; exact ropen_fn bs A c b H hR hcap hbig

theorem awake_fn (b : World) (H : List Asr) : Fn Try.prog 13 [] b H (fun v H' => v = .bool true ∧ H = H') := by
  refine fn_of_at (by kernel_rfl) Try.func13 rfl Try.ntmps13 rfl rfl ?_
  refine at_seq ?_
  refine at_region ?_
  refine wl_read rfl rfl rfl (yl_assign rfl rfl) ?_
  refine wl_nil ?_
  refine at_keep (Keep.cons 0 rfl Keep.nil) ?_
  refine at_seq ?_
  refine at_region ?_
  refine wl_call rfl rfl rfl (en_call rfl rfl) (new_fn _ _) ?_
  rintro _ _ ⟨g, rfl, rfl⟩
  refine wl_read rfl rfl rfl (yl_assign rfl rfl) ?_
  refine wl_nil ?_
  refine at_keep (Keep.cons 0 rfl (Keep.cons 1 rfl Keep.nil)) ?_
  refine at_seq ?_
  refine at_region ?_
  refine wl_read rfl rfl rfl (yl_move rfl rfl) ?_
  refine wl_eff rfl rfl rfl (ef_buildSlice (e := 5) ([97, 98, 99] : List UInt8) rfl rfl (fun _ => by kernel_rfl) rfl rfl) ?_
  rintro _ _ ⟨T2_1, rfl, rfl⟩
  refine wl_eff rfl rfl rfl (ef_litBytes 0 rfl rfl rfl (by decide) Try.underlying30 Try.underlying5) ?_
  rintro _ _ ⟨rfl, hH⟩
  simp only [List.set_cons_succ, List.set_cons_zero] at hH; subst hH
  refine wl_heap (fun _ hw => hw.front1) ?_
  refine wl_call rfl rfl rfl (en_call rfl rfl) (append_fn [] 0 g _ _ ([97, 98, 99] : List UInt8) _ _ (by decide) (by decide) (by decide) (Rd.pool (m := ⟨T2_1, ([97, 98, 99] : List UInt8).length, ([97, 98, 99] : List UInt8)⟩) 0 rfl (by simp))) ?_
  rintro _ _ ⟨rfl, rfl⟩
  refine wl_read rfl rfl rfl (yl_assign rfl rfl) ?_
  refine wl_nil ?_
  refine at_keep (Keep.cons 0 rfl (Keep.cons 1 rfl (Keep.cons 2 rfl Keep.nil))) ?_
  refine at_seq ?_
  refine at_region ?_
  refine wl_read rfl rfl rfl (yl_move rfl rfl) ?_
  refine wl_call rfl rfl rfl (en_call rfl rfl) (flush_fn ([[97, 98, 99]] : List (List UInt8)) 0 g _ _) ?_
  rintro _ _ ⟨rfl, rfl⟩
  refine wl_nil ?_
  refine at_keep (Keep.cons 0 rfl (Keep.cons 1 rfl (Keep.cons 2 rfl Keep.nil))) ?_
  refine at_seq ?_
  refine at_region ?_
  refine wl_read rfl rfl rfl (yl_move rfl rfl) ?_
  refine wl_eff rfl rfl rfl (ef_buildSlice (e := 5) ([100, 101, 102, 103] : List UInt8) rfl rfl (fun _ => by kernel_rfl) rfl rfl) ?_
  rintro _ _ ⟨T4_1, rfl, rfl⟩
  refine wl_eff rfl rfl rfl (ef_litBytes 0 rfl rfl rfl (by decide) Try.underlying30 Try.underlying5) ?_
  rintro _ _ ⟨rfl, hH⟩
  simp only [List.set_cons_succ, List.set_cons_zero] at hH; subst hH
  refine wl_heap (fun _ hw => hw.front1) ?_
  refine wl_call rfl rfl rfl (en_call rfl rfl) (append_fn ([[97, 98, 99]] : List (List UInt8)) (jenc ([[97, 98, 99]] : List (List UInt8))).length g _ _ ([100, 101, 102, 103] : List UInt8) _ _ (by decide) (by decide) (by decide) (Rd.pool (m := ⟨T4_1, ([100, 101, 102, 103] : List UInt8).length, ([100, 101, 102, 103] : List UInt8)⟩) 0 rfl (by simp))) ?_
  rintro _ _ ⟨rfl, rfl⟩
  refine wl_read rfl rfl rfl (yl_assign rfl rfl) ?_
  refine wl_nil ?_
  refine at_keep (Keep.cons 0 rfl (Keep.cons 1 rfl (Keep.cons 2 rfl (Keep.cons 3 rfl Keep.nil)))) ?_
  refine at_seq ?_
  refine at_region ?_
  refine wl_read rfl rfl rfl (yl_move rfl rfl) ?_
  refine wl_call rfl rfl rfl (en_call rfl rfl) (crash_fn ([[97, 98, 99], [100, 101, 102, 103]] : List (List UInt8)) (jenc ([[97, 98, 99]] : List (List UInt8))).length g _ _ 8 ⟨by decide, by decide⟩ (by rw [lenR1, lenR2]; decide) (by rw [lenR2]; decide)) ?_
  rintro _ _ ⟨A1, c1, rfl, rfl⟩
  refine wl_know (fun _ hw => hw.slCap 0 rfl) (fun hcap => ?_)
  refine wl_call rfl rfl rfl (en_call rfl rfl) (open_fn ((jenc ([[97, 98, 99], [100, 101, 102, 103]] : List (List UInt8))).take (cutN ([[97, 98, 99], [100, 101, 102, 103]] : List (List UInt8)) (jenc ([[97, 98, 99]] : List (List UInt8))).length 8)) _ _ _ _ (Rd.of_sl 0 rfl) hcap (by rw [List.length_take, lenR2]; omega)) ?_
  rintro _ _ ⟨g2, rfl, rfl⟩
  rw [prsR]
  refine wl_read rfl rfl rfl (yl_assign rfl rfl) ?_
  refine wl_nil ?_
  refine at_keep (Keep.cons 0 rfl (Keep.cons 1 rfl (Keep.cons 2 rfl (Keep.cons 3 rfl (Keep.cons 4 rfl Keep.nil))))) ?_
  refine at_seq ?_
  refine at_region ?_
  refine wl_read rfl rfl rfl (yl_move rfl rfl) ?_
  refine wl_call rfl rfl rfl (en_call rfl rfl) (records_fn ([[97, 98, 99]] : List (List UInt8)) (jenc ([[97, 98, 99]] : List (List UInt8))).length g2 _ _ (by decide) (by rw [lenR1]; decide)) ?_
  rintro _ _ ⟨A2, c2, out, rfl, hout, rfl⟩
  refine wl_read rfl rfl rfl (yl_assign rfl rfl) ?_
  refine wl_nil ?_
  refine at_keep (Keep.cons 0 rfl (Keep.cons 1 rfl (Keep.cons 2 rfl (Keep.cons 3 rfl (Keep.cons 4 rfl (Keep.cons 5 rfl Keep.nil)))))) ?_
  refine at_seq ?_
  obtain ⟨m, rfl, hm⟩ : ∃ m : Mem UInt8, out = [m] ∧ m.xs = [97, 98, 99] := by
    cases out with
    | nil => simp [recs] at hout
    | cons m t => cases t with
      | nil => exact ⟨m, rfl, by simpa [recs] using hout⟩
      | cons _ _ => simp [recs] at hout
  refine at_region ?_
  refine wl_read rfl rfl rfl (yl_move rfl rfl) ?_
  refine wl_read rfl rfl rfl ((yp_eql rfl rfl rfl).1 rfl) ?_
  refine wl_read rfl rfl rfl (yl_move rfl rfl) ?_
  refine wl_read rfl rfl rfl (yl_move rfl rfl) ?_
  refine wl_read rfl rfl rfl ((yp_eql rfl rfl rfl).1 rfl) ?_
  refine wl_read rfl rfl rfl (yl_pickT rfl rfl rfl) ?_
  refine wl_read rfl rfl rfl (yl_move rfl rfl) ?_
  refine wl_read rfl rfl rfl (yl_move rfl rfl) ?_
  refine wl_heap (fun _ hw => hw.front4) ?_
  refine wl_call rfl rfl rfl (en_call rfl rfl) (flushed_fn ([[97, 98, 99], [100, 101, 102, 103]] : List (List UInt8)) (jenc ([[97, 98, 99]] : List (List UInt8))).length g _ _) ?_
  rintro _ _ ⟨rfl, rfl⟩
  refine wl_read rfl rfl rfl ((yp_eql rfl rfl rfl).1 (by rw [lenR1]; rfl)) ?_
  refine wl_read rfl rfl rfl (yl_pickT rfl rfl rfl) ?_
  refine wl_read rfl rfl rfl (yl_move rfl rfl) ?_
  refine wl_read rfl rfl rfl (yl_move rfl rfl) ?_
  refine wl_call rfl rfl rfl (en_call rfl rfl) (bytesJ_fn ([[97, 98, 99], [100, 101, 102, 103]] : List (List UInt8)) (jenc ([[97, 98, 99]] : List (List UInt8))).length g _ _ (by rw [lenR2]; decide)) ?_
  rintro _ _ ⟨A3, c3, rfl, rfl⟩
  refine wl_read rfl rfl rfl (yl_len rfl rfl Try.underlying30) ?_
  refine wl_read rfl rfl rfl ((yp_eql rfl rfl rfl).1 (by rw [lenR2]; rfl)) ?_
  refine wl_read rfl rfl rfl (yl_pickT rfl rfl rfl) ?_
  refine wl_read rfl rfl rfl (yl_move rfl rfl) ?_
  refine wl_read rfl rfl rfl (yl_move rfl rfl) ?_
  refine wl_heap (fun _ hw => hw.front4) ?_
  refine wl_call rfl rfl rfl (en_call rfl rfl) (len_fn ([[97, 98, 99]] : List (List UInt8)) (jenc ([[97, 98, 99]] : List (List UInt8))).length g2 _ _) ?_
  rintro _ _ ⟨rfl, rfl⟩
  refine wl_read rfl rfl rfl ((yp_eql rfl rfl rfl).1 rfl) ?_
  refine wl_read rfl rfl rfl (yl_pickT rfl rfl rfl) ?_
  refine wl_read rfl rfl rfl (yl_move rfl rfl) ?_
  refine wl_read rfl rfl rfl (yl_move rfl rfl) ?_
  refine wl_read rfl rfl rfl (yl_len rfl rfl Try.underlying22) ?_
  refine wl_read rfl rfl rfl ((yp_eql rfl rfl rfl).1 rfl) ?_
  refine wl_read rfl rfl rfl (yl_pickT rfl rfl rfl) ?_
  refine wl_read rfl rfl rfl (yl_move rfl rfl) ?_
  refine wl_read rfl rfl rfl (yl_move rfl rfl) ?_
  refine wl_read rfl rfl rfl (yl_index rfl rfl rfl (Rd.of_sl (xs := [m]) 3 rfl) (show [m][0]? = some m from rfl) rfl rfl Try.underlying22 (by kernel_rfl) rfl) ?_
  refine wl_read rfl rfl rfl (yl_load rfl rfl Try.underlying30 rfl ((Rd.of_sl (xs := [m]) 3 rfl).cell2 (show [m][0]? = some m from rfl) (i := 0) rfl)) ?_
  refine wl_read rfl rfl rfl (yl_string (bs := m.xs) rfl rfl (Rd.pcs 4 rfl (by simp)) Try.underlying30 Try.underlying5 Try.underlying9) ?_
  refine wl_read rfl rfl rfl ((yp_eqStr (m := m.xs) (n := ([97, 98, 99] : List UInt8)) rfl rfl rfl).1 hm) ?_
  refine wl_read rfl rfl rfl (yl_pickT rfl rfl rfl) ?_
  refine wl_read rfl rfl rfl (yl_assign rfl rfl) ?_
  refine wl_nil ?_
  refine at_keep (Keep.cons 0 rfl (Keep.cons 1 rfl (Keep.cons 2 rfl (Keep.cons 3 rfl (Keep.cons 4 rfl (Keep.cons 5 rfl Keep.nil)))))) ?_
  refine at_retH (fun _ hw => hw.tail.tail.tail.tail.tail.tail.tail.tail) Try.func13 (res1 rfl rfl) ?_
  exact ⟨rfl, rfl⟩
theorem law4 (A : Option Addr) (n c : Nat) (k : Int) (b : World) (H : List Asr) : Fn Try.prog 4 [.slice A n c, .int .i64 k] b H (fun v H' => v = .bool true ∧ H = H') := by
  refine fn_of_at (by kernel_rfl) Try.func4 rfl Try.ntmps4 rfl rfl ?_
  refine at_seq ?_
  refine at_region ?_
  refine wl_read rfl rfl rfl (yl_assign rfl rfl) ?_
  refine wl_nil ?_
  refine at_keep (Keep.cons 0 rfl (Keep.cons 1 rfl (Keep.cons 4 rfl Keep.nil))) ?_
  refine at_seq ?_
  refine at_region ?_
  refine wl_read rfl rfl rfl (yl_assign rfl rfl) ?_
  refine wl_nil ?_
  refine at_keep (Keep.cons 0 rfl (Keep.cons 1 rfl (Keep.cons 4 rfl (Keep.cons 5 rfl Keep.nil)))) ?_
  refine at_seq ?_
  refine at_region ?_
  refine wl_read rfl rfl rfl (yl_move rfl rfl) ?_
  refine wl_call rfl rfl rfl (en_call rfl rfl) (flush_nil _ _) ?_
  rintro _ _ ⟨rfl, rfl⟩
  refine wl_nil ?_
  refine at_keep (Keep.cons 0 rfl (Keep.cons 1 rfl (Keep.cons 4 rfl (Keep.cons 5 rfl Keep.nil)))) ?_
  refine at_seq ?_
  refine at_region ?_
  refine wl_call rfl rfl rfl (en_call rfl rfl) (awake_fn _ _) ?_
  rintro _ _ ⟨rfl, rfl⟩
  refine wl_read rfl rfl rfl (yl_move rfl rfl) ?_
  refine wl_read rfl rfl rfl (yl_move rfl rfl) ?_
  refine wl_read rfl rfl rfl (yl_move rfl rfl) ?_
  refine wl_call rfl rfl rfl (en_call rfl rfl) (append_nil _ _ _ _ _) ?_
  rintro _ _ ⟨rfl, rfl⟩
  refine wl_read rfl rfl rfl ((yp_eql rfl rfl rfl).1 rfl) ?_
  refine wl_read rfl rfl rfl (yl_pickT rfl rfl rfl) ?_
  refine wl_read rfl rfl rfl (yl_move rfl rfl) ?_
  refine wl_read rfl rfl rfl (yl_move rfl rfl) ?_
  refine wl_read rfl rfl rfl (yl_move rfl rfl) ?_
  refine wl_call rfl rfl rfl (en_call rfl rfl) (crash_nil _ _ _) ?_
  rintro _ _ ⟨rfl, rfl⟩
  refine wl_read rfl rfl rfl (yl_len rfl rfl Try.underlying30) ?_
  refine wl_read rfl rfl rfl ((yp_eql rfl rfl rfl).1 rfl) ?_
  refine wl_read rfl rfl rfl (yl_pickT rfl rfl rfl) ?_
  refine wl_read rfl rfl rfl (yl_move rfl rfl) ?_
  refine wl_read rfl rfl rfl (yl_move rfl rfl) ?_
  refine wl_call rfl rfl rfl (en_call rfl rfl) (records_nil _ _) ?_
  rintro _ _ ⟨rfl, rfl⟩
  refine wl_read rfl rfl rfl (yl_len rfl rfl Try.underlying22) ?_
  refine wl_read rfl rfl rfl ((yp_eql rfl rfl rfl).1 rfl) ?_
  refine wl_read rfl rfl rfl (yl_pickT rfl rfl rfl) ?_
  refine wl_read rfl rfl rfl (yl_move rfl rfl) ?_
  refine wl_read rfl rfl rfl (yl_move rfl rfl) ?_
  refine wl_call rfl rfl rfl (en_call rfl rfl) (len_nil _ _) ?_
  rintro _ _ ⟨rfl, rfl⟩
  refine wl_read rfl rfl rfl ((yp_eql rfl rfl rfl).1 rfl) ?_
  refine wl_read rfl rfl rfl (yl_pickT rfl rfl rfl) ?_
  refine wl_read rfl rfl rfl (yl_move rfl rfl) ?_
  refine wl_read rfl rfl rfl (yl_move rfl rfl) ?_
  refine wl_call rfl rfl rfl (en_call rfl rfl) (flushed_nil _ _) ?_
  rintro _ _ ⟨rfl, rfl⟩
  refine wl_read rfl rfl rfl ((yp_eql rfl rfl rfl).1 rfl) ?_
  refine wl_read rfl rfl rfl (yl_pickT rfl rfl rfl) ?_
  refine wl_read rfl rfl rfl (yl_move rfl rfl) ?_
  refine wl_read rfl rfl rfl (yl_move rfl rfl) ?_
  refine wl_call rfl rfl rfl (en_call rfl rfl) (bytesJ_nil _ _) ?_
  rintro _ _ ⟨rfl, rfl⟩
  refine wl_read rfl rfl rfl (yl_len rfl rfl Try.underlying30) ?_
  refine wl_read rfl rfl rfl ((yp_eql rfl rfl rfl).1 rfl) ?_
  refine wl_read rfl rfl rfl (yl_pickT rfl rfl rfl) ?_
  refine wl_read rfl rfl rfl (yl_move rfl rfl) ?_
  refine wl_read rfl rfl rfl (yl_move rfl rfl) ?_
  refine wl_call rfl rfl rfl (en_call rfl rfl) (fork_nil _ _) ?_
  rintro _ _ ⟨rfl, rfl⟩
  refine wl_read rfl rfl rfl (yl_eqPtr rfl rfl rfl (by kernel_rfl) rfl) ?_
  refine wl_read rfl rfl rfl (yl_pickT rfl rfl rfl) ?_
  refine wl_read rfl rfl rfl (yl_assign rfl rfl) ?_
  refine wl_nil ?_
  refine at_keep (Keep.cons 0 rfl (Keep.cons 1 rfl (Keep.cons 4 rfl (Keep.cons 5 rfl Keep.nil)))) ?_
  refine at_ret Try.func4 (res1 rfl rfl) ?_
  exact ⟨rfl, rfl⟩
theorem law5 (l : List (Mem UInt8)) (A : Option Addr) (c : Nat) (fs : List Bool) (A2 : Option Addr) (c2 : Nat) (b : World) (H : List Asr) (hR : Rd H A l) (hE : ∀ m, m ∈ l → Rd H m.A m.xs) (hR2 : Rd H A2 fs) : Fn Try.prog 5 [.slice A l.length c, .slice A2 fs.length c2] b H (fun v H' => v = .bool true ∧ H = H') := by
  refine fn_of_at (by kernel_rfl) Try.func5 rfl Try.ntmps5 rfl rfl ?_
  refine at_seq ?_
  refine at_region ?_
  refine wl_read rfl rfl rfl (yl_assign rfl rfl) ?_
  refine wl_nil ?_
  refine at_keep (Keep.cons 0 rfl (Keep.cons 1 rfl (Keep.cons 4 rfl Keep.nil))) ?_
  refine at_seq ?_
  refine at_region ?_
  refine wl_read rfl rfl rfl (yl_move rfl rfl) ?_
  refine wl_read rfl rfl rfl (yl_move rfl rfl) ?_
  refine wl_call rfl rfl rfl (en_call rfl rfl) (fill_fn l A c fs A2 c2 _ _ hR hE hR2) ?_
  rintro _ _ ⟨g, r, s, hs, rfl, rfl⟩
  refine wl_read rfl rfl rfl (yl_move rfl rfl) ?_
  refine wl_read rfl rfl rfl (yl_extract rfl rfl rfl) ?_
  refine wl_read rfl rfl rfl (yl_extract rfl rfl rfl) ?_
  refine wl_read rfl rfl rfl (yl_extract rfl rfl rfl) ?_
  refine wl_read rfl rfl rfl (yl_assign rfl rfl) ?_
  refine wl_read rfl rfl rfl (yl_assign rfl rfl) ?_
  refine wl_read rfl rfl rfl (yl_assign rfl rfl) ?_
  refine wl_nil ?_
  refine at_keep (Keep.cons 0 rfl (Keep.cons 1 rfl (Keep.cons 4 rfl (Keep.cons 5 rfl (Keep.cons 6 rfl (Keep.cons 7 rfl Keep.nil)))))) ?_
  refine at_seq ?_
  refine at_region ?_
  refine wl_call rfl rfl rfl (en_call rfl rfl) (awake_fn _ _) ?_
  rintro _ _ ⟨rfl, rfl⟩
  refine wl_read rfl rfl rfl (yl_move rfl rfl) ?_
  refine wl_read rfl rfl rfl (yl_move rfl rfl) ?_
  refine wl_read rfl rfl rfl (yl_pickT rfl rfl rfl) ?_
  refine wl_read rfl rfl rfl (yl_move rfl rfl) ?_
  refine wl_read rfl rfl rfl (yl_move rfl rfl) ?_
  refine wl_read rfl rfl rfl (yl_move rfl rfl) ?_
  refine wl_call rfl rfl rfl (en_call rfl rfl) (same_fn s.rs s.ws s.pl s.fl g r _ _ hs.eq hs.ok (by have := hs.len; omega) hs.inp) ?_
  rintro _ _ ⟨rfl, rfl⟩
  refine wl_read rfl rfl rfl (yl_pickT rfl rfl rfl) ?_
  refine wl_read rfl rfl rfl (yl_assign rfl rfl) ?_
  refine wl_nil ?_
  refine at_keep (Keep.cons 0 rfl (Keep.cons 1 rfl (Keep.cons 4 rfl (Keep.cons 5 rfl (Keep.cons 6 rfl (Keep.cons 7 rfl Keep.nil)))))) ?_
  refine at_retH (fun _ hw => hw.tail.tail.tail) Try.func5 (res1 rfl rfl) ?_
  exact ⟨rfl, rfl⟩
theorem law6 (l : List (Mem UInt8)) (A : Option Addr) (c : Nat) (fs : List Bool) (A2 : Option Addr) (c2 : Nat) (k : Int) (hk : I64 k) (b : World) (H : List Asr) (hR : Rd H A l) (hE : ∀ m, m ∈ l → Rd H m.A m.xs) (hR2 : Rd H A2 fs) : Fn Try.prog 6 [.slice A l.length c, .slice A2 fs.length c2, .int .i64 k] b H (fun v H' => v = .bool true ∧ H = H') := by
  have hm := md_bd k 60 (by decide)
  have hk2 : I64 (md k 60 - 5) := ⟨by omega, by omega⟩
  refine fn_of_at (by kernel_rfl) Try.func6 rfl Try.ntmps6 rfl rfl ?_
  refine at_seq ?_
  refine at_region ?_
  refine wl_read rfl rfl rfl (yl_assign rfl rfl) ?_
  refine wl_nil ?_
  refine at_keep (Keep.cons 0 rfl (Keep.cons 1 rfl (Keep.cons 2 rfl (Keep.cons 6 rfl Keep.nil)))) ?_
  refine at_seq ?_
  refine at_region ?_
  refine wl_read rfl rfl rfl (yl_move rfl rfl) ?_
  refine wl_read rfl rfl rfl (yl_move rfl rfl) ?_
  refine wl_call rfl rfl rfl (en_call rfl rfl) (fill_fn l A c fs A2 c2 _ _ hR hE hR2) ?_
  rintro _ _ ⟨g, r, s, hs, rfl, rfl⟩
  refine wl_read rfl rfl rfl (yl_move rfl rfl) ?_
  refine wl_read rfl rfl rfl (yl_extract rfl rfl rfl) ?_
  refine wl_read rfl rfl rfl (yl_extract rfl rfl rfl) ?_
  refine wl_read rfl rfl rfl (yl_extract rfl rfl rfl) ?_
  refine wl_read rfl rfl rfl (yl_assign rfl rfl) ?_
  refine wl_read rfl rfl rfl (yl_assign rfl rfl) ?_
  refine wl_read rfl rfl rfl (yl_assign rfl rfl) ?_
  refine wl_nil ?_
  refine at_keep (Keep.cons 0 rfl (Keep.cons 1 rfl (Keep.cons 2 rfl (Keep.cons 6 rfl (Keep.cons 7 rfl (Keep.cons 8 rfl (Keep.cons 9 rfl Keep.nil))))))) ?_
  refine at_seq ?_
  refine at_region ?_
  refine wl_read rfl rfl rfl (yl_move rfl rfl) ?_
  refine wl_call rfl rfl rfl (en_call rfl rfl) (mod_fn _ _ _ _ (by decide) (by decide)) ?_
  rintro _ _ ⟨rfl, rfl⟩
  refine wl_read rfl rfl rfl (yl_sub rfl rfl rfl (w64 (by omega) (by omega))) ?_
  refine wl_read rfl rfl rfl (yl_assign rfl rfl) ?_
  refine wl_nil ?_
  refine at_keep (Keep.cons 0 rfl (Keep.cons 1 rfl (Keep.cons 2 rfl (Keep.cons 6 rfl (Keep.cons 7 rfl (Keep.cons 8 rfl (Keep.cons 9 rfl (Keep.cons 10 rfl Keep.nil)))))))) ?_
  refine at_seq ?_
  have hby := hs.bytes
  have hfl := hs.flle
  have heq := hs.eq
  have hbr : (jenc (recs s.ws)).length ≤ 406 * 30 := by rw [heq]; exact hby
  refine at_region ?_
  refine wl_call rfl rfl rfl (en_call rfl rfl) (awake_fn _ _) ?_
  rintro _ _ ⟨rfl, rfl⟩
  refine wl_read rfl rfl rfl (yl_move rfl rfl) ?_
  refine wl_read rfl rfl rfl (yl_move rfl rfl) ?_
  refine wl_read rfl rfl rfl (yl_pickT rfl rfl rfl) ?_
  refine wl_read rfl rfl rfl (yl_move rfl rfl) ?_
  refine wl_read rfl rfl rfl (yl_move rfl rfl) ?_
  refine wl_read rfl rfl rfl (yl_move rfl rfl) ?_
  refine wl_call rfl rfl rfl (en_call rfl rfl) (crash_fn s.rs s.fl g _ _ k hk hfl (by omega)) ?_
  rintro _ _ ⟨A5, c5, rfl, rfl⟩
  refine wl_read rfl rfl rfl (yl_move rfl rfl) ?_
  refine wl_read rfl rfl rfl (yl_move rfl rfl) ?_
  refine wl_heap (fun _ hw => hw.front2) ?_
  refine wl_call rfl rfl rfl (en_call rfl rfl) (rcrash_fn s.ws s.fl r _ _ k hk (by rw [heq]; exact hfl) (by omega)) ?_
  rintro _ _ ⟨A6, c6, rfl, rfl⟩
  refine wl_call rfl rfl rfl (en_call rfl rfl) (bytes_fn ((jenc s.rs).take (cutN s.rs s.fl k)) ((jenc (recs s.ws)).take (cutN (recs s.ws) s.fl k)) _ _ _ _ _ _ (Rd.of_sl 2 rfl) (Rd.of_sl 0 rfl)) ?_
  rintro _ _ ⟨rfl, rfl⟩
  rw [decide_eq_true (by rw [heq])]
  refine wl_read rfl rfl rfl (yl_pickT rfl rfl rfl) ?_
  refine wl_read rfl rfl rfl (yl_move rfl rfl) ?_
  refine wl_read rfl rfl rfl (yl_move rfl rfl) ?_
  refine wl_read rfl rfl rfl (yl_move rfl rfl) ?_
  refine wl_heap (fun _ hw => hw.front3) ?_
  refine wl_call rfl rfl rfl (en_call rfl rfl) (crash_fn s.rs s.fl g _ _ (md k 60 - 5) hk2 hfl (by omega)) ?_
  rintro _ _ ⟨A7, c7, rfl, rfl⟩
  refine wl_read rfl rfl rfl (yl_move rfl rfl) ?_
  refine wl_read rfl rfl rfl (yl_move rfl rfl) ?_
  refine wl_heap (fun _ hw => hw.front3) ?_
  refine wl_call rfl rfl rfl (en_call rfl rfl) (rcrash_fn s.ws s.fl r _ _ (md k 60 - 5) hk2 (by rw [heq]; exact hfl) (by omega)) ?_
  rintro _ _ ⟨A8, c8, rfl, rfl⟩
  refine wl_call rfl rfl rfl (en_call rfl rfl) (bytes_fn ((jenc s.rs).take (cutN s.rs s.fl (md k 60 - 5))) ((jenc (recs s.ws)).take (cutN (recs s.ws) s.fl (md k 60 - 5))) _ _ _ _ _ _ (Rd.of_sl 2 rfl) (Rd.of_sl 0 rfl)) ?_
  rintro _ _ ⟨rfl, rfl⟩
  rw [decide_eq_true (by rw [heq])]
  refine wl_read rfl rfl rfl (yl_pickT rfl rfl rfl) ?_
  refine wl_read rfl rfl rfl (yl_move rfl rfl) ?_
  refine wl_read rfl rfl rfl (yl_move rfl rfl) ?_
  refine wl_read rfl rfl rfl (yl_move rfl rfl) ?_
  refine wl_heap (fun _ hw => hw.front6.front2.front4) ?_
  refine wl_call rfl rfl rfl (en_call rfl rfl) (same_fn s.rs s.ws s.pl s.fl g r _ _ hs.eq hs.ok (by have := hs.len; omega) hs.inp) ?_
  rintro _ _ ⟨rfl, rfl⟩
  refine wl_read rfl rfl rfl (yl_pickT rfl rfl rfl) ?_
  refine wl_read rfl rfl rfl (yl_assign rfl rfl) ?_
  refine wl_nil ?_
  refine at_keep (Keep.cons 0 rfl (Keep.cons 1 rfl (Keep.cons 2 rfl (Keep.cons 6 rfl (Keep.cons 7 rfl (Keep.cons 8 rfl (Keep.cons 9 rfl (Keep.cons 10 rfl Keep.nil)))))))) ?_
  refine at_retH (fun _ hw => hw.tail.tail.tail.tail.tail.tail.tail) Try.func6 (res1 rfl rfl) ?_
  exact ⟨rfl, rfl⟩
theorem law7 (raw : List UInt8) (Aw : Option Addr) (cw : Nat) (l : List (Mem UInt8)) (A : Option Addr) (c : Nat) (at' by' : Int) (b : World) (H : List Asr) (hR : Rd H A l) (hE : ∀ m, m ∈ l → Rd H m.A m.xs) (hRw : Rd H Aw raw) (hcw : raw.length ≤ cw) (hbw : raw.length ≤ 140737488351232) : Fn Try.prog 7 [.slice Aw raw.length cw, .slice A l.length c, .int .i64 at', .int .i64 by'] b H (fun v H' => v = .bool true ∧ H = H') := by
  refine fn_of_at (by kernel_rfl) Try.func7 rfl Try.ntmps7 rfl rfl ?_
  refine at_seq ?_
  refine at_region ?_
  refine wl_read rfl rfl rfl (yl_assign rfl rfl) ?_
  refine wl_nil ?_
  refine at_keep (Keep.cons 0 rfl (Keep.cons 1 rfl (Keep.cons 2 rfl (Keep.cons 3 rfl (Keep.cons 8 rfl Keep.nil))))) ?_
  refine at_seq ?_
  refine at_seq ?_
  refine at_region ?_
  refine wl_read rfl rfl rfl (yl_move rfl rfl) ?_
  refine wl_call rfl rfl rfl (en_call rfl rfl) (open_fn raw _ _ _ _ hRw hcw hbw) ?_
  rintro _ _ ⟨g1, rfl, rfl⟩
  refine wl_read rfl rfl rfl (yl_move rfl rfl) ?_
  refine wl_call rfl rfl rfl (en_call rfl rfl) (ropen_fn raw _ _ _ _ (hRw.cons _) hcw hbw) ?_
  rintro _ _ ⟨r1, ws1, pl1, rfl, hrc1, hin1, rfl⟩
  rw [hrc1]
  refine wl_heap (fun _ hw => hw.front1.front1.front2) ?_
  refine wl_call rfl rfl rfl (en_call rfl rfl) (same_fn (prs 20000 raw) ws1 pl1 _ g1 r1 _ _ hrc1 (prs_ok _ _) (prs_len _ _) hin1) ?_
  rintro _ _ ⟨rfl, rfl⟩
  refine wl_read rfl rfl rfl (yl_notT rfl rfl) ?_
  refine wl_read rfl rfl rfl (yl_move rfl rfl) ?_
  refine wl_call rfl rfl rfl (en_call rfl rfl) (awake_fn _ _) ?_
  rintro _ _ ⟨rfl, rfl⟩
  refine wl_read rfl rfl rfl (yl_notT rfl rfl) ?_
  refine wl_read rfl rfl rfl (yl_pickF rfl rfl rfl) ?_
  refine wl_nil ?_
  refine at_keep (Keep.cons 0 rfl (Keep.cons 1 rfl (Keep.cons 2 rfl (Keep.cons 3 rfl (Keep.cons 8 rfl (Keep.cons 22 rfl Keep.nil)))))) ?_
  refine at_false rfl ?_
  refine at_skip ?_
  refine at_seq ?_
  refine at_region ?_
  refine wl_read rfl rfl rfl (yl_move rfl rfl) ?_
  refine wl_call rfl rfl rfl (en_call rfl rfl) (fill_fn l A c ([] : List Bool) none 0 _ _ (((hR.cons _).cons _).cons _) (fun m hm => ((((hE m hm).cons _).cons _).cons _)) Rd.nil) ?_
  rintro _ _ ⟨g, r, s, hs, rfl, rfl⟩
  refine wl_read rfl rfl rfl (yl_move rfl rfl) ?_
  refine wl_read rfl rfl rfl (yl_extract rfl rfl rfl) ?_
  refine wl_read rfl rfl rfl (yl_extract rfl rfl rfl) ?_
  refine wl_read rfl rfl rfl (yl_extract rfl rfl rfl) ?_
  refine wl_read rfl rfl rfl (yl_assign rfl rfl) ?_
  refine wl_read rfl rfl rfl (yl_assign rfl rfl) ?_
  refine wl_read rfl rfl rfl (yl_assign rfl rfl) ?_
  refine wl_nil ?_
  refine at_keep (Keep.cons 0 rfl (Keep.cons 1 rfl (Keep.cons 2 rfl (Keep.cons 3 rfl (Keep.cons 8 rfl (Keep.cons 9 rfl (Keep.cons 11 rfl (Keep.cons 22 rfl Keep.nil)))))))) ?_
  refine at_seq ?_
  have hby := hs.bytes
  have hfl := hs.flle
  refine at_region ?_
  refine wl_read rfl rfl rfl (yl_move rfl rfl) ?_
  refine wl_call rfl rfl rfl (en_call rfl rfl) (bytesJ_fn s.rs s.fl g _ _ (by omega)) ?_
  rintro _ _ ⟨A5, c5, rfl, rfl⟩
  refine wl_read rfl rfl rfl (yl_assign rfl rfl) ?_
  refine wl_nil ?_
  refine at_keep (Keep.cons 0 rfl (Keep.cons 1 rfl (Keep.cons 2 rfl (Keep.cons 3 rfl (Keep.cons 8 rfl (Keep.cons 9 rfl (Keep.cons 11 rfl (Keep.cons 12 rfl (Keep.cons 22 rfl Keep.nil))))))))) ?_
  refine at_seq ?_
  refine at_seq ?_
  refine at_know (fun _ hw => hw.slCap 0 rfl) (fun hcb => ?_)
  refine at_region ?_
  refine wl_read rfl rfl rfl (yl_move rfl rfl) ?_
  refine wl_read rfl rfl rfl (yl_len rfl rfl Try.underlying30) ?_
  refine wl_split rfl rfl rfl (yp_gtr rfl rfl rfl) ?_ ?_
  · intro h5_2
    refine wl_nil ?_
    refine at_keep (Keep.cons 0 rfl (Keep.cons 1 rfl (Keep.cons 2 rfl (Keep.cons 3 rfl (Keep.cons 8 rfl (Keep.cons 9 rfl (Keep.cons 11 rfl (Keep.cons 12 rfl (Keep.cons 22 rfl (Keep.cons 33 rfl Keep.nil)))))))))) ?_
    refine at_true rfl ?_
    have hmd := md_bd at' ((jenc s.rs).length : Int) (by omega)
    obtain ⟨i0, hi0⟩ : ∃ i0 : Nat, md at' ((jenc s.rs).length : Int) = (i0 : Int) := ⟨_, (Int.toNat_of_nonneg hmd.1).symm⟩
    have hil : i0 < (jenc s.rs).length := by omega
    obtain ⟨yb, hyb⟩ := wrap8_ex by'
    refine at_region ?_
    refine wl_read rfl rfl rfl (yl_move rfl rfl) ?_
    refine wl_read rfl rfl rfl (yl_move rfl rfl) ?_
    refine wl_read rfl rfl rfl (yl_move rfl rfl) ?_
    refine wl_read rfl rfl rfl (yl_len rfl rfl Try.underlying30) ?_
    refine wl_call rfl rfl rfl (en_call rfl rfl) (mod_fn _ _ _ _ (by omega) (by omega)) ?_
    rintro _ _ ⟨rfl, rfl⟩
    rw [hi0]
    refine wl_read rfl rfl rfl (yl_index rfl rfl rfl (Rd.of_sl (xs := jenc s.rs) 0 rfl) (at_some hil) rfl rfl Try.underlying30 (by kernel_rfl) rfl) ?_
    refine wl_read rfl rfl rfl (yl_load rfl rfl Try.underlying5 rfl ((Rd.of_sl (xs := jenc s.rs) 0 rfl).cell2 (at_some hil) (i := 0) rfl)) ?_
    refine wl_read rfl rfl rfl (yl_move rfl rfl) ?_
    refine wl_read rfl rfl rfl (yl_conv rfl rfl rfl Try.underlying5 hyb) ?_
    refine wl_read rfl rfl rfl (yl_xor rfl rfl rfl (xor8_ex _ _)) ?_
    refine wl_read rfl rfl rfl (yl_index rfl rfl rfl (Rd.of_sl (xs := jenc s.rs) 0 rfl) (at_some hil) rfl rfl Try.underlying30 (by kernel_rfl) rfl) ?_
    refine wl_store rfl rfl (es_at0 (es_storeSl (xs := jenc s.rs) (j := i0) (i := 0) 0 (at_ (jenc s.rs) i0 ^^^ yb) rfl rfl rfl rfl (by kernel_rfl) rfl (at_some hil) rfl rfl)) ?_
    refine wl_nil ?_
    refine at_keep (Keep.cons 0 rfl (Keep.cons 1 rfl (Keep.cons 2 rfl (Keep.cons 3 rfl (Keep.cons 8 rfl (Keep.cons 9 rfl (Keep.cons 11 rfl (Keep.cons 12 rfl (Keep.cons 22 rfl (Keep.cons 33 rfl Keep.nil)))))))))) ?_
    refine at_seq ?_
    refine at_region ?_
    refine wl_read rfl rfl rfl (yl_move rfl rfl) ?_
    refine wl_read rfl rfl rfl (yl_move rfl rfl) ?_
    refine wl_read rfl rfl rfl (yl_move rfl rfl) ?_
    refine wl_call rfl rfl rfl (en_call rfl rfl) (open_fnN ((jenc s.rs).set i0 (at_ (jenc s.rs) i0 ^^^ yb)) _ (List.length_set ..).symm _ _ _ _ (Rd.of_sl (xs := ((jenc s.rs).set i0 (at_ (jenc s.rs) i0 ^^^ yb))) 0 rfl) (by rw [List.length_set]; exact hcb) (by rw [List.length_set]; omega)) ?_
    rintro _ _ ⟨g2, rfl, rfl⟩
    refine wl_read rfl rfl rfl (yl_move rfl rfl) ?_
    refine wl_call rfl rfl rfl (en_call rfl rfl) (ropen_fnN ((jenc s.rs).set i0 (at_ (jenc s.rs) i0 ^^^ yb)) _ (List.length_set ..).symm _ _ _ _ (Rd.of_sl (xs := ((jenc s.rs).set i0 (at_ (jenc s.rs) i0 ^^^ yb))) 1 rfl) (by rw [List.length_set]; exact hcb) (by rw [List.length_set]; omega)) ?_
    rintro _ _ ⟨r2, ws2, pl2, rfl, hrc2, hin2, rfl⟩
    rw [hrc2]
    refine wl_heap (fun _ hw => hw.front1.front1.front2) ?_
    refine wl_call rfl rfl rfl (en_call rfl rfl) (same_fn (prs 20000 ((jenc s.rs).set i0 (at_ (jenc s.rs) i0 ^^^ yb))) ws2 pl2 _ g2 r2 _ _ hrc2 (prs_ok _ _) (prs_len _ _) hin2) ?_
    rintro _ _ ⟨rfl, rfl⟩
    refine wl_read rfl rfl rfl (yl_pickT rfl rfl rfl) ?_
    refine wl_read rfl rfl rfl (yl_assign rfl rfl) ?_
    refine wl_nil ?_
    refine at_keep (Keep.cons 0 rfl (Keep.cons 1 rfl (Keep.cons 2 rfl (Keep.cons 3 rfl (Keep.cons 8 rfl (Keep.cons 9 rfl (Keep.cons 11 rfl (Keep.cons 12 rfl (Keep.cons 22 rfl (Keep.cons 33 rfl Keep.nil)))))))))) ?_
    refine at_retH (fun _ hw => hw.tail.tail.tail.tail.tail.tail.tail.tail.tail.tail) Try.func7 (res1 rfl rfl) ?_
    exact ⟨rfl, rfl⟩
  · intro h5_2
    refine wl_nil ?_
    refine at_keep (Keep.cons 0 rfl (Keep.cons 1 rfl (Keep.cons 2 rfl (Keep.cons 3 rfl (Keep.cons 8 rfl (Keep.cons 9 rfl (Keep.cons 11 rfl (Keep.cons 12 rfl (Keep.cons 22 rfl (Keep.cons 33 rfl Keep.nil)))))))))) ?_
    refine at_false rfl ?_
    refine at_skip ?_
    refine at_seq ?_
    refine at_region ?_
    refine wl_read rfl rfl rfl (yl_move rfl rfl) ?_
    refine wl_read rfl rfl rfl (yl_move rfl rfl) ?_
    refine wl_read rfl rfl rfl (yl_move rfl rfl) ?_
    refine wl_call rfl rfl rfl (en_call rfl rfl) (open_fn (jenc s.rs) _ _ _ _ (Rd.of_sl (xs := (jenc s.rs)) 0 rfl) hcb (by omega)) ?_
    rintro _ _ ⟨g2, rfl, rfl⟩
    refine wl_read rfl rfl rfl (yl_move rfl rfl) ?_
    refine wl_call rfl rfl rfl (en_call rfl rfl) (ropen_fn (jenc s.rs) _ _ _ _ (Rd.of_sl (xs := (jenc s.rs)) 1 rfl) hcb (by omega)) ?_
    rintro _ _ ⟨r2, ws2, pl2, rfl, hrc2, hin2, rfl⟩
    rw [hrc2]
    refine wl_heap (fun _ hw => hw.front1.front1.front2) ?_
    refine wl_call rfl rfl rfl (en_call rfl rfl) (same_fn (prs 20000 (jenc s.rs)) ws2 pl2 _ g2 r2 _ _ hrc2 (prs_ok _ _) (prs_len _ _) hin2) ?_
    rintro _ _ ⟨rfl, rfl⟩
    refine wl_read rfl rfl rfl (yl_pickT rfl rfl rfl) ?_
    refine wl_read rfl rfl rfl (yl_assign rfl rfl) ?_
    refine wl_nil ?_
    refine at_keep (Keep.cons 0 rfl (Keep.cons 1 rfl (Keep.cons 2 rfl (Keep.cons 3 rfl (Keep.cons 8 rfl (Keep.cons 9 rfl (Keep.cons 11 rfl (Keep.cons 12 rfl (Keep.cons 22 rfl (Keep.cons 33 rfl Keep.nil)))))))))) ?_
    refine at_retH (fun _ hw => hw.tail.tail.tail.tail.tail.tail.tail.tail.tail.tail) Try.func7 (res1 rfl rfl) ?_
    exact ⟨rfl, rfl⟩
end Go.Proofs.Yteecjaiklpkhaaa

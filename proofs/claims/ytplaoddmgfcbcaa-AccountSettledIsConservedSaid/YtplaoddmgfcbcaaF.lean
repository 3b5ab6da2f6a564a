/- Walks of the laws on one account. -/
import Derived.Test.YtplaoddmgfcbcaaE
namespace Go.Proofs.Ytplaoddmgfcbcaa
open Go

theorem play_acc (l : List Raw) (g : Nat) (A : Option Addr) (c : Nat) (b : World) (H : List Asr) (hR : Rd H A (entries l)) : Fn Try.prog 13 [.pointer (some ⟨g, 0, none⟩), .slice A (entries l).length c] b (Acc g [] :: H)
    (fun v H' => ∃ A' c', v = .slice A' (errs [] (entries l)).length c' ∧ H' = Sl A' c' 35 (errs [] (entries l)) :: Acc g (acc l) :: H) :=
  play_fn [] (entries l) g A c b H Good.nil (by have := entries_length l; simp; omega) hR
theorem post_err (es : List Entry) (e : Entry) (n : Int) (g : Nat) (b : World) (H : List Asr) (hg : Good es) (hl : es.length ≤ 999) (h : perr es e = n) (hn : n ≠ 0) : Fn Try.prog 19 [.pointer (some ⟨g, 0, none⟩), .agg (Enc.cells e).toArray] b (Acc g es :: H) (fun v H' => v = .int .i64 n ∧ Acc g es :: H = H') := by
  have := post_fn es e g b H hg hl
  rwa [pnext_no (by rw [h]; exact hn), h] at this
theorem post_ok (es : List Entry) (e : Entry) (g : Nat) (b : World) (H : List Asr) (hg : Good es) (hl : es.length ≤ 999) (h : perr es e = 0) : Fn Try.prog 19 [.pointer (some ⟨g, 0, none⟩), .agg (Enc.cells e).toArray] b (Acc g es :: H) (fun v H' => v = .int .i64 0 ∧ Acc g (es ++ [e]) :: H = H') := by
  have := post_fn es e g b H hg hl
  rwa [pnext_yes h, h] at this
theorem has_is (es : List Entry) (k : Key) (t : Bool) (g : Nat) (b : World) (H : List Asr) (h : decide (0 < cnt es k) = t) : Fn Try.prog 20 [.pointer (some ⟨g, 0, none⟩), .int .i64 k.1, .int .i64 k.2.1, .int .i64 k.2.2] b (Acc g es :: H) (fun v H' => v = .bool t ∧ Acc g es :: H = H') := by
  have := has_fn es g b H k
  rwa [h] at this

theorem law3 (l : List Raw) (A : Option Addr) (c : Nat) (what : Int) (by_ : Int) (b : World) (H : List Asr) (hR : Rd H A l) (ha : ∀ i, i < l.length → I64 (at_ l i).amount) : Fn Try.prog 3 [.slice A l.length c, .int .i64 what, .int .i64 by_] b H (fun v H' => v = .bool true ∧ H = H') := by
  have hgd := acc_good l
  have hln := acc_length l
  have hmd := md_bd by_ 1000 (by decide)
  refine fn_of_at (by kernel_rfl) Try.func3 rfl Try.ntmps3 rfl rfl ?_
  refine at_seq ?_
  refine at_region ?_
  refine wl_read rfl rfl rfl (yl_assign rfl rfl) ?_
  refine wl_nil ?_
  refine at_keep (Keep.cons 0 rfl (Keep.cons 1 rfl (Keep.cons 2 rfl (Keep.cons 6 rfl Keep.nil)))) ?_
  refine at_seq ?_
  refine at_region ?_
  refine wl_call rfl rfl rfl (en_call rfl rfl) (new_fn _ _) ?_
  rintro _ _ ⟨g, rfl, rfl⟩
  refine wl_read rfl rfl rfl (yl_assign rfl rfl) ?_
  refine wl_nil ?_
  refine at_keep (Keep.cons 0 rfl (Keep.cons 1 rfl (Keep.cons 2 rfl (Keep.cons 6 rfl (Keep.cons 7 rfl Keep.nil))))) ?_
  refine at_seq ?_
  refine at_region ?_
  refine wl_read rfl rfl rfl (yl_move rfl rfl) ?_
  refine wl_read rfl rfl rfl (yl_move rfl rfl) ?_
  refine wl_call rfl rfl rfl (en_call rfl rfl) (entraw_fn l A c _ _ (hR.cons _) ha) ?_
  rintro _ _ ⟨A1, c1, rfl, rfl⟩
  refine wl_heap (fun _ hw => hw.front1) ?_
  refine wl_call rfl rfl rfl (en_call rfl rfl) (play_acc l g _ _ _ _ (Rd.of_sl 0 rfl)) ?_
  rintro _ _ ⟨A2, c2, rfl, rfl⟩
  refine wl_nil ?_
  refine at_keep (Keep.cons 0 rfl (Keep.cons 1 rfl (Keep.cons 2 rfl (Keep.cons 6 rfl (Keep.cons 7 rfl Keep.nil))))) ?_
  refine at_seq ?_
  refine at_region ?_
  refine wl_read rfl rfl rfl (yl_move rfl rfl) ?_
  refine wl_heap (fun _ hw => hw.front1) ?_
  refine wl_call rfl rfl rfl (en_call rfl rfl) (entries_fn _ g _ _ (by omega)) ?_
  rintro _ _ ⟨An, cn, rfl, rfl⟩
  refine wl_read rfl rfl rfl (yl_len rfl rfl Try.underlying27) ?_
  refine wl_read rfl rfl rfl (yl_move rfl rfl) ?_
  refine wl_heap (fun _ hw => hw.front1) ?_
  refine wl_call rfl rfl rfl (en_call rfl rfl) (settled_fn _ g _ _) ?_
  rintro _ _ ⟨rfl, rfl⟩
  refine wl_read rfl rfl rfl (yl_assign rfl rfl) ?_
  refine wl_read rfl rfl rfl (yl_assign rfl rfl) ?_
  refine wl_nil ?_
  refine at_keep (Keep.cons 0 rfl (Keep.cons 1 rfl (Keep.cons 2 rfl (Keep.cons 6 rfl (Keep.cons 7 rfl (Keep.cons 8 rfl (Keep.cons 9 rfl Keep.nil))))))) ?_
  refine at_seq ?_
  refine at_region ?_
  refine wl_read rfl rfl rfl (yl_move rfl rfl) ?_
  refine wl_call rfl rfl rfl (en_call rfl rfl) (mod_fn _ _ _ _ (by decide) (by decide)) ?_
  rintro _ _ ⟨rfl, rfl⟩
  refine wl_read rfl rfl rfl (yl_add rfl rfl rfl (w64 (by omega) (by omega))) ?_
  refine wl_read rfl rfl rfl (yl_assign rfl rfl) ?_
  refine wl_nil ?_
  refine at_keep (Keep.cons 0 rfl (Keep.cons 1 rfl (Keep.cons 2 rfl (Keep.cons 6 rfl (Keep.cons 7 rfl (Keep.cons 8 rfl (Keep.cons 9 rfl (Keep.cons 10 rfl Keep.nil)))))))) ?_
  refine at_seq ?_
  refine at_region ?_
  refine wl_read rfl rfl rfl (yl_build (cs := [.int .i64 2000, .int .i64 2, .int .i64 1, .int .i64 300, .int .i64 5]) rfl rfl (fun _ => by kernel_rfl)) ?_
  refine wl_eff rfl rfl rfl (ef_alloc (cs := [.int .i64 0, .int .i64 0, .int .i64 0, .int .i64 0, .int .i64 0]) (z := .agg #[.int .i64 0, .int .i64 0, .int .i64 0, .int .i64 0, .int .i64 0]) rfl (by kernel_rfl) rfl) ?_
  rintro _ _ ⟨ge, rfl, rfl⟩
  refine wl_store rfl rfl (es_at0 (es_storeN 0 rfl rfl rfl rfl (by kernel_rfl) rfl rfl)) ?_
  refine wl_nil ?_
  refine at_keep (Keep.cons 0 rfl (Keep.cons 1 rfl (Keep.cons 2 rfl (Keep.cons 6 rfl (Keep.cons 7 rfl (Keep.cons 8 rfl (Keep.cons 9 rfl (Keep.cons 10 rfl (Keep.cons 11 rfl Keep.nil))))))))) ?_
  refine at_seq ?_
  refine at_seq ?_
  refine at_region ?_
  refine wl_read rfl rfl rfl (yl_move rfl rfl) ?_
  refine wl_call rfl rfl rfl (en_call rfl rfl) (mod_fn _ _ _ _ (by decide) (by decide)) ?_
  rintro _ _ ⟨rfl, rfl⟩
  refine wl_nil ?_
  refine at_keep (Keep.cons 0 rfl (Keep.cons 1 rfl (Keep.cons 2 rfl (Keep.cons 6 rfl (Keep.cons 7 rfl (Keep.cons 8 rfl (Keep.cons 9 rfl (Keep.cons 10 rfl (Keep.cons 11 rfl (Keep.cons 27 rfl Keep.nil)))))))))) ?_
  refine at_block ?_
  refine at_seq ?_
  refine at_region ?_
  refine wl_split rfl rfl rfl (yp_eql rfl rfl rfl) ?_ ?_
  · intro h8_0
    refine wl_read rfl rfl rfl (yl_assign rfl rfl) ?_
    refine wl_nil ?_
    refine at_keep (Keep.cons 0 rfl (Keep.cons 1 rfl (Keep.cons 2 rfl (Keep.cons 6 rfl (Keep.cons 7 rfl (Keep.cons 8 rfl (Keep.cons 9 rfl (Keep.cons 10 rfl (Keep.cons 11 rfl (Keep.cons 27 rfl (Keep.cons 32 rfl Keep.nil))))))))))) ?_
    refine at_true rfl ?_
    
    refine at_region ?_
    refine wl_read rfl rfl rfl (yl_move rfl rfl) ?_
    refine wl_read rfl rfl rfl (yl_neg rfl rfl (w64 (by omega) (by omega))) ?_
    refine wl_read rfl rfl rfl (yl_fieldB rfl rfl Try.underlying33 rfl (by kernel_rfl) rfl) ?_
    refine wl_store rfl rfl (es_at0 (es_store 0 rfl rfl rfl rfl (by kernel_rfl) rfl rfl)) ?_
    refine wl_nil ?_
    refine at_keep (Keep.cons 0 rfl (Keep.cons 1 rfl (Keep.cons 2 rfl (Keep.cons 6 rfl (Keep.cons 7 rfl (Keep.cons 8 rfl (Keep.cons 9 rfl (Keep.cons 10 rfl (Keep.cons 11 rfl (Keep.cons 27 rfl (Keep.cons 32 rfl Keep.nil))))))))))) ?_
    refine at_inBlock ?_
    refine at_seq ?_
    
    refine at_region ?_
    refine wl_call rfl rfl rfl (en_call rfl rfl) (awake_fn _ _) ?_
    rintro _ _ ⟨rfl, rfl⟩
    refine wl_read rfl rfl rfl (yl_move rfl rfl) ?_
    refine wl_read rfl rfl rfl (yl_move rfl rfl) ?_
    refine wl_read rfl rfl rfl (yl_loadBk 0 rfl rfl rfl Try.underlying33 rfl (by kernel_rfl)) ?_
    refine wl_heap (fun _ hw => hw.front1) ?_
    refine wl_call rfl rfl rfl (en_call rfl rfl) (post_err (acc l) ⟨0 - (1 + md by_ 1000), 2, 1, 300, 5⟩ 1 g _ _ hgd (by omega) (perr1 (by unfold okE; simp only []; omega)) (by decide)) ?_
    rintro _ _ ⟨rfl, rfl⟩
    refine wl_read rfl rfl rfl ((yp_eql rfl rfl rfl).1 rfl) ?_
    refine wl_read rfl rfl rfl (yl_pickT rfl rfl rfl) ?_
    refine wl_read rfl rfl rfl (yl_move rfl rfl) ?_
    refine wl_read rfl rfl rfl (yl_move rfl rfl) ?_
    refine wl_call rfl rfl rfl (en_call rfl rfl) (entries_fn _ g _ _ (by omega)) ?_
    rintro _ _ ⟨Ap, cp, rfl, rfl⟩
    refine wl_read rfl rfl rfl (yl_len rfl rfl Try.underlying27) ?_
    refine wl_read rfl rfl rfl (yl_move rfl rfl) ?_
    refine wl_read rfl rfl rfl ((yp_eql rfl rfl rfl).1 rfl) ?_
    refine wl_read rfl rfl rfl (yl_pickT rfl rfl rfl) ?_
    refine wl_read rfl rfl rfl (yl_move rfl rfl) ?_
    refine wl_read rfl rfl rfl (yl_move rfl rfl) ?_
    refine wl_heap (fun _ hw => hw.front1) ?_
    refine wl_call rfl rfl rfl (en_call rfl rfl) (settled_fn _ g _ _) ?_
    rintro _ _ ⟨rfl, rfl⟩
    refine wl_read rfl rfl rfl (yl_move rfl rfl) ?_
    refine wl_read rfl rfl rfl ((yp_eql rfl rfl rfl).1 rfl) ?_
    refine wl_read rfl rfl rfl (yl_pickT rfl rfl rfl) ?_
    refine wl_read rfl rfl rfl (yl_assign rfl rfl) ?_
    refine wl_nil ?_
    refine at_keep (Keep.cons 0 rfl (Keep.cons 1 rfl (Keep.cons 2 rfl (Keep.cons 6 rfl (Keep.cons 7 rfl (Keep.cons 8 rfl (Keep.cons 9 rfl (Keep.cons 10 rfl (Keep.cons 11 rfl (Keep.cons 27 rfl (Keep.cons 32 rfl Keep.nil))))))))))) ?_
    refine at_retH (fun _ hw => hw.tail.tail.tail.tail.tail.tail) Try.func3 (res1 rfl rfl) ?_
    exact ⟨rfl, rfl⟩
  · intro h8_0
    refine wl_read rfl rfl rfl (yl_assign rfl rfl) ?_
    refine wl_nil ?_
    refine at_keep (Keep.cons 0 rfl (Keep.cons 1 rfl (Keep.cons 2 rfl (Keep.cons 6 rfl (Keep.cons 7 rfl (Keep.cons 8 rfl (Keep.cons 9 rfl (Keep.cons 10 rfl (Keep.cons 11 rfl (Keep.cons 27 rfl (Keep.cons 32 rfl Keep.nil))))))))))) ?_
    refine at_false rfl ?_
    refine at_seq ?_
    refine at_region ?_
    refine wl_split rfl rfl rfl (yp_eql rfl rfl rfl) ?_ ?_
    · intro h10_0
      refine wl_read rfl rfl rfl (yl_assign rfl rfl) ?_
      refine wl_nil ?_
      refine at_keep (Keep.cons 0 rfl (Keep.cons 1 rfl (Keep.cons 2 rfl (Keep.cons 6 rfl (Keep.cons 7 rfl (Keep.cons 8 rfl (Keep.cons 9 rfl (Keep.cons 10 rfl (Keep.cons 11 rfl (Keep.cons 27 rfl (Keep.cons 32 rfl (Keep.cons 37 rfl Keep.nil)))))))))))) ?_
      refine at_true rfl ?_
      
      refine at_region ?_
      refine wl_read rfl rfl rfl (yl_move rfl rfl) ?_
      refine wl_read rfl rfl rfl (yl_add rfl rfl rfl (w64 (by omega) (by omega))) ?_
      refine wl_read rfl rfl rfl (yl_fieldB rfl rfl Try.underlying33 rfl (by kernel_rfl) rfl) ?_
      refine wl_store rfl rfl (es_at0 (es_store 0 rfl rfl rfl rfl (by kernel_rfl) rfl rfl)) ?_
      refine wl_nil ?_
      refine at_keep (Keep.cons 0 rfl (Keep.cons 1 rfl (Keep.cons 2 rfl (Keep.cons 6 rfl (Keep.cons 7 rfl (Keep.cons 8 rfl (Keep.cons 9 rfl (Keep.cons 10 rfl (Keep.cons 11 rfl (Keep.cons 27 rfl (Keep.cons 32 rfl (Keep.cons 37 rfl Keep.nil)))))))))))) ?_
      refine at_inBlock ?_
      refine at_seq ?_
      
      refine at_region ?_
      refine wl_call rfl rfl rfl (en_call rfl rfl) (awake_fn _ _) ?_
      rintro _ _ ⟨rfl, rfl⟩
      refine wl_read rfl rfl rfl (yl_move rfl rfl) ?_
      refine wl_read rfl rfl rfl (yl_move rfl rfl) ?_
      refine wl_read rfl rfl rfl (yl_loadBk 0 rfl rfl rfl Try.underlying33 rfl (by kernel_rfl)) ?_
      refine wl_heap (fun _ hw => hw.front1) ?_
      refine wl_call rfl rfl rfl (en_call rfl rfl) (post_err (acc l) ⟨2399 + (1 + md by_ 1000), 2, 1, 300, 5⟩ 1 g _ _ hgd (by omega) (perr1 (by unfold okE; simp only []; omega)) (by decide)) ?_
      rintro _ _ ⟨rfl, rfl⟩
      refine wl_read rfl rfl rfl ((yp_eql rfl rfl rfl).1 rfl) ?_
      refine wl_read rfl rfl rfl (yl_pickT rfl rfl rfl) ?_
      refine wl_read rfl rfl rfl (yl_move rfl rfl) ?_
      refine wl_read rfl rfl rfl (yl_move rfl rfl) ?_
      refine wl_call rfl rfl rfl (en_call rfl rfl) (entries_fn _ g _ _ (by omega)) ?_
      rintro _ _ ⟨Ap, cp, rfl, rfl⟩
      refine wl_read rfl rfl rfl (yl_len rfl rfl Try.underlying27) ?_
      refine wl_read rfl rfl rfl (yl_move rfl rfl) ?_
      refine wl_read rfl rfl rfl ((yp_eql rfl rfl rfl).1 rfl) ?_
      refine wl_read rfl rfl rfl (yl_pickT rfl rfl rfl) ?_
      refine wl_read rfl rfl rfl (yl_move rfl rfl) ?_
      refine wl_read rfl rfl rfl (yl_move rfl rfl) ?_
      refine wl_heap (fun _ hw => hw.front1) ?_
      refine wl_call rfl rfl rfl (en_call rfl rfl) (settled_fn _ g _ _) ?_
      rintro _ _ ⟨rfl, rfl⟩
      refine wl_read rfl rfl rfl (yl_move rfl rfl) ?_
      refine wl_read rfl rfl rfl ((yp_eql rfl rfl rfl).1 rfl) ?_
      refine wl_read rfl rfl rfl (yl_pickT rfl rfl rfl) ?_
      refine wl_read rfl rfl rfl (yl_assign rfl rfl) ?_
      refine wl_nil ?_
      refine at_keep (Keep.cons 0 rfl (Keep.cons 1 rfl (Keep.cons 2 rfl (Keep.cons 6 rfl (Keep.cons 7 rfl (Keep.cons 8 rfl (Keep.cons 9 rfl (Keep.cons 10 rfl (Keep.cons 11 rfl (Keep.cons 27 rfl (Keep.cons 32 rfl (Keep.cons 37 rfl Keep.nil)))))))))))) ?_
      refine at_retH (fun _ hw => hw.tail.tail.tail.tail.tail.tail) Try.func3 (res1 rfl rfl) ?_
      exact ⟨rfl, rfl⟩
    · intro h10_0
      refine wl_read rfl rfl rfl (yl_assign rfl rfl) ?_
      refine wl_nil ?_
      refine at_keep (Keep.cons 0 rfl (Keep.cons 1 rfl (Keep.cons 2 rfl (Keep.cons 6 rfl (Keep.cons 7 rfl (Keep.cons 8 rfl (Keep.cons 9 rfl (Keep.cons 10 rfl (Keep.cons 11 rfl (Keep.cons 27 rfl (Keep.cons 32 rfl (Keep.cons 37 rfl Keep.nil)))))))))))) ?_
      refine at_false rfl ?_
      refine at_seq ?_
      refine at_region ?_
      refine wl_split rfl rfl rfl (yp_eql rfl rfl rfl) ?_ ?_
      · intro h12_0
        refine wl_read rfl rfl rfl (yl_assign rfl rfl) ?_
        refine wl_nil ?_
        refine at_keep (Keep.cons 0 rfl (Keep.cons 1 rfl (Keep.cons 2 rfl (Keep.cons 6 rfl (Keep.cons 7 rfl (Keep.cons 8 rfl (Keep.cons 9 rfl (Keep.cons 10 rfl (Keep.cons 11 rfl (Keep.cons 27 rfl (Keep.cons 32 rfl (Keep.cons 37 rfl (Keep.cons 42 rfl Keep.nil))))))))))))) ?_
        refine at_true rfl ?_
        
        refine at_region ?_
        refine wl_read rfl rfl rfl (yl_move rfl rfl) ?_
        refine wl_read rfl rfl rfl (yl_add rfl rfl rfl (w64 (by omega) (by omega))) ?_
        refine wl_read rfl rfl rfl (yl_fieldB rfl rfl Try.underlying33 rfl (by kernel_rfl) rfl) ?_
        refine wl_store rfl rfl (es_at0 (es_store 0 rfl rfl rfl rfl (by kernel_rfl) rfl rfl)) ?_
        refine wl_nil ?_
        refine at_keep (Keep.cons 0 rfl (Keep.cons 1 rfl (Keep.cons 2 rfl (Keep.cons 6 rfl (Keep.cons 7 rfl (Keep.cons 8 rfl (Keep.cons 9 rfl (Keep.cons 10 rfl (Keep.cons 11 rfl (Keep.cons 27 rfl (Keep.cons 32 rfl (Keep.cons 37 rfl (Keep.cons 42 rfl Keep.nil))))))))))))) ?_
        refine at_inBlock ?_
        refine at_seq ?_
        
        refine at_region ?_
        refine wl_call rfl rfl rfl (en_call rfl rfl) (awake_fn _ _) ?_
        rintro _ _ ⟨rfl, rfl⟩
        refine wl_read rfl rfl rfl (yl_move rfl rfl) ?_
        refine wl_read rfl rfl rfl (yl_move rfl rfl) ?_
        refine wl_read rfl rfl rfl (yl_loadBk 0 rfl rfl rfl Try.underlying33 rfl (by kernel_rfl)) ?_
        refine wl_heap (fun _ hw => hw.front1) ?_
        refine wl_call rfl rfl rfl (en_call rfl rfl) (post_err (acc l) ⟨2000, 3 + (1 + md by_ 1000), 1, 300, 5⟩ 1 g _ _ hgd (by omega) (perr1 (by unfold okE; simp only []; omega)) (by decide)) ?_
        rintro _ _ ⟨rfl, rfl⟩
        refine wl_read rfl rfl rfl ((yp_eql rfl rfl rfl).1 rfl) ?_
        refine wl_read rfl rfl rfl (yl_pickT rfl rfl rfl) ?_
        refine wl_read rfl rfl rfl (yl_move rfl rfl) ?_
        refine wl_read rfl rfl rfl (yl_move rfl rfl) ?_
        refine wl_call rfl rfl rfl (en_call rfl rfl) (entries_fn _ g _ _ (by omega)) ?_
        rintro _ _ ⟨Ap, cp, rfl, rfl⟩
        refine wl_read rfl rfl rfl (yl_len rfl rfl Try.underlying27) ?_
        refine wl_read rfl rfl rfl (yl_move rfl rfl) ?_
        refine wl_read rfl rfl rfl ((yp_eql rfl rfl rfl).1 rfl) ?_
        refine wl_read rfl rfl rfl (yl_pickT rfl rfl rfl) ?_
        refine wl_read rfl rfl rfl (yl_move rfl rfl) ?_
        refine wl_read rfl rfl rfl (yl_move rfl rfl) ?_
        refine wl_heap (fun _ hw => hw.front1) ?_
        refine wl_call rfl rfl rfl (en_call rfl rfl) (settled_fn _ g _ _) ?_
        rintro _ _ ⟨rfl, rfl⟩
        refine wl_read rfl rfl rfl (yl_move rfl rfl) ?_
        refine wl_read rfl rfl rfl ((yp_eql rfl rfl rfl).1 rfl) ?_
        refine wl_read rfl rfl rfl (yl_pickT rfl rfl rfl) ?_
        refine wl_read rfl rfl rfl (yl_assign rfl rfl) ?_
        refine wl_nil ?_
        refine at_keep (Keep.cons 0 rfl (Keep.cons 1 rfl (Keep.cons 2 rfl (Keep.cons 6 rfl (Keep.cons 7 rfl (Keep.cons 8 rfl (Keep.cons 9 rfl (Keep.cons 10 rfl (Keep.cons 11 rfl (Keep.cons 27 rfl (Keep.cons 32 rfl (Keep.cons 37 rfl (Keep.cons 42 rfl Keep.nil))))))))))))) ?_
        refine at_retH (fun _ hw => hw.tail.tail.tail.tail.tail.tail) Try.func3 (res1 rfl rfl) ?_
        exact ⟨rfl, rfl⟩
      · intro h12_0
        refine wl_read rfl rfl rfl (yl_assign rfl rfl) ?_
        refine wl_nil ?_
        refine at_keep (Keep.cons 0 rfl (Keep.cons 1 rfl (Keep.cons 2 rfl (Keep.cons 6 rfl (Keep.cons 7 rfl (Keep.cons 8 rfl (Keep.cons 9 rfl (Keep.cons 10 rfl (Keep.cons 11 rfl (Keep.cons 27 rfl (Keep.cons 32 rfl (Keep.cons 37 rfl (Keep.cons 42 rfl Keep.nil))))))))))))) ?_
        refine at_false rfl ?_
        refine at_seq ?_
        refine at_region ?_
        refine wl_split rfl rfl rfl (yp_eql rfl rfl rfl) ?_ ?_
        · intro h14_0
          refine wl_read rfl rfl rfl (yl_assign rfl rfl) ?_
          refine wl_nil ?_
          refine at_keep (Keep.cons 0 rfl (Keep.cons 1 rfl (Keep.cons 2 rfl (Keep.cons 6 rfl (Keep.cons 7 rfl (Keep.cons 8 rfl (Keep.cons 9 rfl (Keep.cons 10 rfl (Keep.cons 11 rfl (Keep.cons 27 rfl (Keep.cons 32 rfl (Keep.cons 37 rfl (Keep.cons 42 rfl (Keep.cons 47 rfl Keep.nil)))))))))))))) ?_
          refine at_true rfl ?_
          
          refine at_region ?_
          refine wl_read rfl rfl rfl (yl_move rfl rfl) ?_
          refine wl_read rfl rfl rfl (yl_sub rfl rfl rfl (w64 (by omega) (by omega))) ?_
          refine wl_read rfl rfl rfl (yl_fieldB rfl rfl Try.underlying33 rfl (by kernel_rfl) rfl) ?_
          refine wl_store rfl rfl (es_at0 (es_store 0 rfl rfl rfl rfl (by kernel_rfl) rfl rfl)) ?_
          refine wl_nil ?_
          refine at_keep (Keep.cons 0 rfl (Keep.cons 1 rfl (Keep.cons 2 rfl (Keep.cons 6 rfl (Keep.cons 7 rfl (Keep.cons 8 rfl (Keep.cons 9 rfl (Keep.cons 10 rfl (Keep.cons 11 rfl (Keep.cons 27 rfl (Keep.cons 32 rfl (Keep.cons 37 rfl (Keep.cons 42 rfl (Keep.cons 47 rfl Keep.nil)))))))))))))) ?_
          refine at_inBlock ?_
          refine at_seq ?_
          
          refine at_region ?_
          refine wl_call rfl rfl rfl (en_call rfl rfl) (awake_fn _ _) ?_
          rintro _ _ ⟨rfl, rfl⟩
          refine wl_read rfl rfl rfl (yl_move rfl rfl) ?_
          refine wl_read rfl rfl rfl (yl_move rfl rfl) ?_
          refine wl_read rfl rfl rfl (yl_loadBk 0 rfl rfl rfl Try.underlying33 rfl (by kernel_rfl)) ?_
          refine wl_heap (fun _ hw => hw.front1) ?_
          refine wl_call rfl rfl rfl (en_call rfl rfl) (post_err (acc l) ⟨2000, 1 - (1 + md by_ 1000), 1, 300, 5⟩ 1 g _ _ hgd (by omega) (perr1 (by unfold okE; simp only []; omega)) (by decide)) ?_
          rintro _ _ ⟨rfl, rfl⟩
          refine wl_read rfl rfl rfl ((yp_eql rfl rfl rfl).1 rfl) ?_
          refine wl_read rfl rfl rfl (yl_pickT rfl rfl rfl) ?_
          refine wl_read rfl rfl rfl (yl_move rfl rfl) ?_
          refine wl_read rfl rfl rfl (yl_move rfl rfl) ?_
          refine wl_call rfl rfl rfl (en_call rfl rfl) (entries_fn _ g _ _ (by omega)) ?_
          rintro _ _ ⟨Ap, cp, rfl, rfl⟩
          refine wl_read rfl rfl rfl (yl_len rfl rfl Try.underlying27) ?_
          refine wl_read rfl rfl rfl (yl_move rfl rfl) ?_
          refine wl_read rfl rfl rfl ((yp_eql rfl rfl rfl).1 rfl) ?_
          refine wl_read rfl rfl rfl (yl_pickT rfl rfl rfl) ?_
          refine wl_read rfl rfl rfl (yl_move rfl rfl) ?_
          refine wl_read rfl rfl rfl (yl_move rfl rfl) ?_
          refine wl_heap (fun _ hw => hw.front1) ?_
          refine wl_call rfl rfl rfl (en_call rfl rfl) (settled_fn _ g _ _) ?_
          rintro _ _ ⟨rfl, rfl⟩
          refine wl_read rfl rfl rfl (yl_move rfl rfl) ?_
          refine wl_read rfl rfl rfl ((yp_eql rfl rfl rfl).1 rfl) ?_
          refine wl_read rfl rfl rfl (yl_pickT rfl rfl rfl) ?_
          refine wl_read rfl rfl rfl (yl_assign rfl rfl) ?_
          refine wl_nil ?_
          refine at_keep (Keep.cons 0 rfl (Keep.cons 1 rfl (Keep.cons 2 rfl (Keep.cons 6 rfl (Keep.cons 7 rfl (Keep.cons 8 rfl (Keep.cons 9 rfl (Keep.cons 10 rfl (Keep.cons 11 rfl (Keep.cons 27 rfl (Keep.cons 32 rfl (Keep.cons 37 rfl (Keep.cons 42 rfl (Keep.cons 47 rfl Keep.nil)))))))))))))) ?_
          refine at_retH (fun _ hw => hw.tail.tail.tail.tail.tail.tail) Try.func3 (res1 rfl rfl) ?_
          exact ⟨rfl, rfl⟩
        · intro h14_0
          refine wl_read rfl rfl rfl (yl_assign rfl rfl) ?_
          refine wl_nil ?_
          refine at_keep (Keep.cons 0 rfl (Keep.cons 1 rfl (Keep.cons 2 rfl (Keep.cons 6 rfl (Keep.cons 7 rfl (Keep.cons 8 rfl (Keep.cons 9 rfl (Keep.cons 10 rfl (Keep.cons 11 rfl (Keep.cons 27 rfl (Keep.cons 32 rfl (Keep.cons 37 rfl (Keep.cons 42 rfl (Keep.cons 47 rfl Keep.nil)))))))))))))) ?_
          refine at_false rfl ?_
          refine at_seq ?_
          refine at_region ?_
          refine wl_split rfl rfl rfl (yp_eql rfl rfl rfl) ?_ ?_
          · intro h16_0
            refine wl_read rfl rfl rfl (yl_assign rfl rfl) ?_
            refine wl_nil ?_
            refine at_keep (Keep.cons 0 rfl (Keep.cons 1 rfl (Keep.cons 2 rfl (Keep.cons 6 rfl (Keep.cons 7 rfl (Keep.cons 8 rfl (Keep.cons 9 rfl (Keep.cons 10 rfl (Keep.cons 11 rfl (Keep.cons 27 rfl (Keep.cons 32 rfl (Keep.cons 37 rfl (Keep.cons 42 rfl (Keep.cons 47 rfl (Keep.cons 52 rfl Keep.nil))))))))))))))) ?_
            refine at_true rfl ?_
            
            refine at_region ?_
            refine wl_read rfl rfl rfl (yl_move rfl rfl) ?_
            refine wl_read rfl rfl rfl (yl_add rfl rfl rfl (w64 (by omega) (by omega))) ?_
            refine wl_read rfl rfl rfl (yl_fieldB rfl rfl Try.underlying33 rfl (by kernel_rfl) rfl) ?_
            refine wl_store rfl rfl (es_at0 (es_store 0 rfl rfl rfl rfl (by kernel_rfl) rfl rfl)) ?_
            refine wl_nil ?_
            refine at_keep (Keep.cons 0 rfl (Keep.cons 1 rfl (Keep.cons 2 rfl (Keep.cons 6 rfl (Keep.cons 7 rfl (Keep.cons 8 rfl (Keep.cons 9 rfl (Keep.cons 10 rfl (Keep.cons 11 rfl (Keep.cons 27 rfl (Keep.cons 32 rfl (Keep.cons 37 rfl (Keep.cons 42 rfl (Keep.cons 47 rfl (Keep.cons 52 rfl Keep.nil))))))))))))))) ?_
            refine at_inBlock ?_
            refine at_seq ?_
            
            refine at_region ?_
            refine wl_call rfl rfl rfl (en_call rfl rfl) (awake_fn _ _) ?_
            rintro _ _ ⟨rfl, rfl⟩
            refine wl_read rfl rfl rfl (yl_move rfl rfl) ?_
            refine wl_read rfl rfl rfl (yl_move rfl rfl) ?_
            refine wl_read rfl rfl rfl (yl_loadBk 0 rfl rfl rfl Try.underlying33 rfl (by kernel_rfl)) ?_
            refine wl_heap (fun _ hw => hw.front1) ?_
            refine wl_call rfl rfl rfl (en_call rfl rfl) (post_err (acc l) ⟨2000, 2, 5 + (1 + md by_ 1000), 300, 5⟩ 1 g _ _ hgd (by omega) (perr1 (by unfold okE; simp only []; omega)) (by decide)) ?_
            rintro _ _ ⟨rfl, rfl⟩
            refine wl_read rfl rfl rfl ((yp_eql rfl rfl rfl).1 rfl) ?_
            refine wl_read rfl rfl rfl (yl_pickT rfl rfl rfl) ?_
            refine wl_read rfl rfl rfl (yl_move rfl rfl) ?_
            refine wl_read rfl rfl rfl (yl_move rfl rfl) ?_
            refine wl_call rfl rfl rfl (en_call rfl rfl) (entries_fn _ g _ _ (by omega)) ?_
            rintro _ _ ⟨Ap, cp, rfl, rfl⟩
            refine wl_read rfl rfl rfl (yl_len rfl rfl Try.underlying27) ?_
            refine wl_read rfl rfl rfl (yl_move rfl rfl) ?_
            refine wl_read rfl rfl rfl ((yp_eql rfl rfl rfl).1 rfl) ?_
            refine wl_read rfl rfl rfl (yl_pickT rfl rfl rfl) ?_
            refine wl_read rfl rfl rfl (yl_move rfl rfl) ?_
            refine wl_read rfl rfl rfl (yl_move rfl rfl) ?_
            refine wl_heap (fun _ hw => hw.front1) ?_
            refine wl_call rfl rfl rfl (en_call rfl rfl) (settled_fn _ g _ _) ?_
            rintro _ _ ⟨rfl, rfl⟩
            refine wl_read rfl rfl rfl (yl_move rfl rfl) ?_
            refine wl_read rfl rfl rfl ((yp_eql rfl rfl rfl).1 rfl) ?_
            refine wl_read rfl rfl rfl (yl_pickT rfl rfl rfl) ?_
            refine wl_read rfl rfl rfl (yl_assign rfl rfl) ?_
            refine wl_nil ?_
            refine at_keep (Keep.cons 0 rfl (Keep.cons 1 rfl (Keep.cons 2 rfl (Keep.cons 6 rfl (Keep.cons 7 rfl (Keep.cons 8 rfl (Keep.cons 9 rfl (Keep.cons 10 rfl (Keep.cons 11 rfl (Keep.cons 27 rfl (Keep.cons 32 rfl (Keep.cons 37 rfl (Keep.cons 42 rfl (Keep.cons 47 rfl (Keep.cons 52 rfl Keep.nil))))))))))))))) ?_
            refine at_retH (fun _ hw => hw.tail.tail.tail.tail.tail.tail) Try.func3 (res1 rfl rfl) ?_
            exact ⟨rfl, rfl⟩
          · intro h16_0
            refine wl_read rfl rfl rfl (yl_assign rfl rfl) ?_
            refine wl_nil ?_
            refine at_keep (Keep.cons 0 rfl (Keep.cons 1 rfl (Keep.cons 2 rfl (Keep.cons 6 rfl (Keep.cons 7 rfl (Keep.cons 8 rfl (Keep.cons 9 rfl (Keep.cons 10 rfl (Keep.cons 11 rfl (Keep.cons 27 rfl (Keep.cons 32 rfl (Keep.cons 37 rfl (Keep.cons 42 rfl (Keep.cons 47 rfl (Keep.cons 52 rfl Keep.nil))))))))))))))) ?_
            refine at_false rfl ?_
            refine at_seq ?_
            refine at_region ?_
            refine wl_split rfl rfl rfl (yp_eql rfl rfl rfl) ?_ ?_
            · intro h18_0
              refine wl_read rfl rfl rfl (yl_assign rfl rfl) ?_
              refine wl_nil ?_
              refine at_keep (Keep.cons 0 rfl (Keep.cons 1 rfl (Keep.cons 2 rfl (Keep.cons 6 rfl (Keep.cons 7 rfl (Keep.cons 8 rfl (Keep.cons 9 rfl (Keep.cons 10 rfl (Keep.cons 11 rfl (Keep.cons 27 rfl (Keep.cons 32 rfl (Keep.cons 37 rfl (Keep.cons 42 rfl (Keep.cons 47 rfl (Keep.cons 52 rfl (Keep.cons 57 rfl Keep.nil)))))))))))))))) ?_
              refine at_true rfl ?_
              
              refine at_region ?_
              refine wl_read rfl rfl rfl (yl_move rfl rfl) ?_
              refine wl_read rfl rfl rfl (yl_sub rfl rfl rfl (w64 (by omega) (by omega))) ?_
              refine wl_read rfl rfl rfl (yl_fieldB rfl rfl Try.underlying33 rfl (by kernel_rfl) rfl) ?_
              refine wl_store rfl rfl (es_at0 (es_store 0 rfl rfl rfl rfl (by kernel_rfl) rfl rfl)) ?_
              refine wl_nil ?_
              refine at_keep (Keep.cons 0 rfl (Keep.cons 1 rfl (Keep.cons 2 rfl (Keep.cons 6 rfl (Keep.cons 7 rfl (Keep.cons 8 rfl (Keep.cons 9 rfl (Keep.cons 10 rfl (Keep.cons 11 rfl (Keep.cons 27 rfl (Keep.cons 32 rfl (Keep.cons 37 rfl (Keep.cons 42 rfl (Keep.cons 47 rfl (Keep.cons 52 rfl (Keep.cons 57 rfl Keep.nil)))))))))))))))) ?_
              refine at_inBlock ?_
              refine at_seq ?_
              
              refine at_region ?_
              refine wl_call rfl rfl rfl (en_call rfl rfl) (awake_fn _ _) ?_
              rintro _ _ ⟨rfl, rfl⟩
              refine wl_read rfl rfl rfl (yl_move rfl rfl) ?_
              refine wl_read rfl rfl rfl (yl_move rfl rfl) ?_
              refine wl_read rfl rfl rfl (yl_loadBk 0 rfl rfl rfl Try.underlying33 rfl (by kernel_rfl)) ?_
              refine wl_heap (fun _ hw => hw.front1) ?_
              refine wl_call rfl rfl rfl (en_call rfl rfl) (post_err (acc l) ⟨2000, 2, 1, 1 - (1 + md by_ 1000), 5⟩ 1 g _ _ hgd (by omega) (perr1 (by unfold okE; simp only []; omega)) (by decide)) ?_
              rintro _ _ ⟨rfl, rfl⟩
              refine wl_read rfl rfl rfl ((yp_eql rfl rfl rfl).1 rfl) ?_
              refine wl_read rfl rfl rfl (yl_pickT rfl rfl rfl) ?_
              refine wl_read rfl rfl rfl (yl_move rfl rfl) ?_
              refine wl_read rfl rfl rfl (yl_move rfl rfl) ?_
              refine wl_call rfl rfl rfl (en_call rfl rfl) (entries_fn _ g _ _ (by omega)) ?_
              rintro _ _ ⟨Ap, cp, rfl, rfl⟩
              refine wl_read rfl rfl rfl (yl_len rfl rfl Try.underlying27) ?_
              refine wl_read rfl rfl rfl (yl_move rfl rfl) ?_
              refine wl_read rfl rfl rfl ((yp_eql rfl rfl rfl).1 rfl) ?_
              refine wl_read rfl rfl rfl (yl_pickT rfl rfl rfl) ?_
              refine wl_read rfl rfl rfl (yl_move rfl rfl) ?_
              refine wl_read rfl rfl rfl (yl_move rfl rfl) ?_
              refine wl_heap (fun _ hw => hw.front1) ?_
              refine wl_call rfl rfl rfl (en_call rfl rfl) (settled_fn _ g _ _) ?_
              rintro _ _ ⟨rfl, rfl⟩
              refine wl_read rfl rfl rfl (yl_move rfl rfl) ?_
              refine wl_read rfl rfl rfl ((yp_eql rfl rfl rfl).1 rfl) ?_
              refine wl_read rfl rfl rfl (yl_pickT rfl rfl rfl) ?_
              refine wl_read rfl rfl rfl (yl_assign rfl rfl) ?_
              refine wl_nil ?_
              refine at_keep (Keep.cons 0 rfl (Keep.cons 1 rfl (Keep.cons 2 rfl (Keep.cons 6 rfl (Keep.cons 7 rfl (Keep.cons 8 rfl (Keep.cons 9 rfl (Keep.cons 10 rfl (Keep.cons 11 rfl (Keep.cons 27 rfl (Keep.cons 32 rfl (Keep.cons 37 rfl (Keep.cons 42 rfl (Keep.cons 47 rfl (Keep.cons 52 rfl (Keep.cons 57 rfl Keep.nil)))))))))))))))) ?_
              refine at_retH (fun _ hw => hw.tail.tail.tail.tail.tail.tail) Try.func3 (res1 rfl rfl) ?_
              exact ⟨rfl, rfl⟩
            · intro h18_0
              refine wl_read rfl rfl rfl (yl_assign rfl rfl) ?_
              refine wl_nil ?_
              refine at_keep (Keep.cons 0 rfl (Keep.cons 1 rfl (Keep.cons 2 rfl (Keep.cons 6 rfl (Keep.cons 7 rfl (Keep.cons 8 rfl (Keep.cons 9 rfl (Keep.cons 10 rfl (Keep.cons 11 rfl (Keep.cons 27 rfl (Keep.cons 32 rfl (Keep.cons 37 rfl (Keep.cons 42 rfl (Keep.cons 47 rfl (Keep.cons 52 rfl (Keep.cons 57 rfl Keep.nil)))))))))))))))) ?_
              refine at_false rfl ?_
              refine at_seq ?_
              refine at_region ?_
              refine wl_split rfl rfl rfl (yp_eql rfl rfl rfl) ?_ ?_
              · intro h20_0
                refine wl_read rfl rfl rfl (yl_assign rfl rfl) ?_
                refine wl_nil ?_
                refine at_keep (Keep.cons 0 rfl (Keep.cons 1 rfl (Keep.cons 2 rfl (Keep.cons 6 rfl (Keep.cons 7 rfl (Keep.cons 8 rfl (Keep.cons 9 rfl (Keep.cons 10 rfl (Keep.cons 11 rfl (Keep.cons 27 rfl (Keep.cons 32 rfl (Keep.cons 37 rfl (Keep.cons 42 rfl (Keep.cons 47 rfl (Keep.cons 52 rfl (Keep.cons 57 rfl (Keep.cons 62 rfl Keep.nil))))))))))))))))) ?_
                refine at_true rfl ?_
                
                refine at_region ?_
                refine wl_read rfl rfl rfl (yl_move rfl rfl) ?_
                refine wl_read rfl rfl rfl (yl_add rfl rfl rfl (w64 (by omega) (by omega))) ?_
                refine wl_read rfl rfl rfl (yl_fieldB rfl rfl Try.underlying33 rfl (by kernel_rfl) rfl) ?_
                refine wl_store rfl rfl (es_at0 (es_store 0 rfl rfl rfl rfl (by kernel_rfl) rfl rfl)) ?_
                refine wl_nil ?_
                refine at_keep (Keep.cons 0 rfl (Keep.cons 1 rfl (Keep.cons 2 rfl (Keep.cons 6 rfl (Keep.cons 7 rfl (Keep.cons 8 rfl (Keep.cons 9 rfl (Keep.cons 10 rfl (Keep.cons 11 rfl (Keep.cons 27 rfl (Keep.cons 32 rfl (Keep.cons 37 rfl (Keep.cons 42 rfl (Keep.cons 47 rfl (Keep.cons 52 rfl (Keep.cons 57 rfl (Keep.cons 62 rfl Keep.nil))))))))))))))))) ?_
                refine at_inBlock ?_
                refine at_seq ?_
                
                refine at_region ?_
                refine wl_call rfl rfl rfl (en_call rfl rfl) (awake_fn _ _) ?_
                rintro _ _ ⟨rfl, rfl⟩
                refine wl_read rfl rfl rfl (yl_move rfl rfl) ?_
                refine wl_read rfl rfl rfl (yl_move rfl rfl) ?_
                refine wl_read rfl rfl rfl (yl_loadBk 0 rfl rfl rfl Try.underlying33 rfl (by kernel_rfl)) ?_
                refine wl_heap (fun _ hw => hw.front1) ?_
                refine wl_call rfl rfl rfl (en_call rfl rfl) (post_err (acc l) ⟨2000, 2, 1, 999 + (1 + md by_ 1000), 5⟩ 1 g _ _ hgd (by omega) (perr1 (by unfold okE; simp only []; omega)) (by decide)) ?_
                rintro _ _ ⟨rfl, rfl⟩
                refine wl_read rfl rfl rfl ((yp_eql rfl rfl rfl).1 rfl) ?_
                refine wl_read rfl rfl rfl (yl_pickT rfl rfl rfl) ?_
                refine wl_read rfl rfl rfl (yl_move rfl rfl) ?_
                refine wl_read rfl rfl rfl (yl_move rfl rfl) ?_
                refine wl_call rfl rfl rfl (en_call rfl rfl) (entries_fn _ g _ _ (by omega)) ?_
                rintro _ _ ⟨Ap, cp, rfl, rfl⟩
                refine wl_read rfl rfl rfl (yl_len rfl rfl Try.underlying27) ?_
                refine wl_read rfl rfl rfl (yl_move rfl rfl) ?_
                refine wl_read rfl rfl rfl ((yp_eql rfl rfl rfl).1 rfl) ?_
                refine wl_read rfl rfl rfl (yl_pickT rfl rfl rfl) ?_
                refine wl_read rfl rfl rfl (yl_move rfl rfl) ?_
                refine wl_read rfl rfl rfl (yl_move rfl rfl) ?_
                refine wl_heap (fun _ hw => hw.front1) ?_
                refine wl_call rfl rfl rfl (en_call rfl rfl) (settled_fn _ g _ _) ?_
                rintro _ _ ⟨rfl, rfl⟩
                refine wl_read rfl rfl rfl (yl_move rfl rfl) ?_
                refine wl_read rfl rfl rfl ((yp_eql rfl rfl rfl).1 rfl) ?_
                refine wl_read rfl rfl rfl (yl_pickT rfl rfl rfl) ?_
                refine wl_read rfl rfl rfl (yl_assign rfl rfl) ?_
                refine wl_nil ?_
                refine at_keep (Keep.cons 0 rfl (Keep.cons 1 rfl (Keep.cons 2 rfl (Keep.cons 6 rfl (Keep.cons 7 rfl (Keep.cons 8 rfl (Keep.cons 9 rfl (Keep.cons 10 rfl (Keep.cons 11 rfl (Keep.cons 27 rfl (Keep.cons 32 rfl (Keep.cons 37 rfl (Keep.cons 42 rfl (Keep.cons 47 rfl (Keep.cons 52 rfl (Keep.cons 57 rfl (Keep.cons 62 rfl Keep.nil))))))))))))))))) ?_
                refine at_retH (fun _ hw => hw.tail.tail.tail.tail.tail.tail) Try.func3 (res1 rfl rfl) ?_
                exact ⟨rfl, rfl⟩
              · intro h20_0
                refine wl_read rfl rfl rfl (yl_assign rfl rfl) ?_
                refine wl_nil ?_
                refine at_keep (Keep.cons 0 rfl (Keep.cons 1 rfl (Keep.cons 2 rfl (Keep.cons 6 rfl (Keep.cons 7 rfl (Keep.cons 8 rfl (Keep.cons 9 rfl (Keep.cons 10 rfl (Keep.cons 11 rfl (Keep.cons 27 rfl (Keep.cons 32 rfl (Keep.cons 37 rfl (Keep.cons 42 rfl (Keep.cons 47 rfl (Keep.cons 52 rfl (Keep.cons 57 rfl (Keep.cons 62 rfl Keep.nil))))))))))))))))) ?_
                refine at_false rfl ?_
                refine at_seq ?_
                refine at_region ?_
                refine wl_split rfl rfl rfl (yp_eql rfl rfl rfl) ?_ ?_
                · intro h22_0
                  refine wl_read rfl rfl rfl (yl_assign rfl rfl) ?_
                  refine wl_nil ?_
                  refine at_keep (Keep.cons 0 rfl (Keep.cons 1 rfl (Keep.cons 2 rfl (Keep.cons 6 rfl (Keep.cons 7 rfl (Keep.cons 8 rfl (Keep.cons 9 rfl (Keep.cons 10 rfl (Keep.cons 11 rfl (Keep.cons 27 rfl (Keep.cons 32 rfl (Keep.cons 37 rfl (Keep.cons 42 rfl (Keep.cons 47 rfl (Keep.cons 52 rfl (Keep.cons 57 rfl (Keep.cons 62 rfl (Keep.cons 67 rfl Keep.nil)))))))))))))))))) ?_
                  refine at_true rfl ?_
                  
                  refine at_region ?_
                  refine wl_read rfl rfl rfl (yl_move rfl rfl) ?_
                  refine wl_read rfl rfl rfl (yl_sub rfl rfl rfl (w64 (by omega) (by omega))) ?_
                  refine wl_read rfl rfl rfl (yl_fieldB rfl rfl Try.underlying33 rfl (by kernel_rfl) rfl) ?_
                  refine wl_store rfl rfl (es_at0 (es_store 0 rfl rfl rfl rfl (by kernel_rfl) rfl rfl)) ?_
                  refine wl_nil ?_
                  refine at_keep (Keep.cons 0 rfl (Keep.cons 1 rfl (Keep.cons 2 rfl (Keep.cons 6 rfl (Keep.cons 7 rfl (Keep.cons 8 rfl (Keep.cons 9 rfl (Keep.cons 10 rfl (Keep.cons 11 rfl (Keep.cons 27 rfl (Keep.cons 32 rfl (Keep.cons 37 rfl (Keep.cons 42 rfl (Keep.cons 47 rfl (Keep.cons 52 rfl (Keep.cons 57 rfl (Keep.cons 62 rfl (Keep.cons 67 rfl Keep.nil)))))))))))))))))) ?_
                  refine at_inBlock ?_
                  refine at_seq ?_
                  
                  refine at_region ?_
                  refine wl_call rfl rfl rfl (en_call rfl rfl) (awake_fn _ _) ?_
                  rintro _ _ ⟨rfl, rfl⟩
                  refine wl_read rfl rfl rfl (yl_move rfl rfl) ?_
                  refine wl_read rfl rfl rfl (yl_move rfl rfl) ?_
                  refine wl_read rfl rfl rfl (yl_loadBk 0 rfl rfl rfl Try.underlying33 rfl (by kernel_rfl)) ?_
                  refine wl_heap (fun _ hw => hw.front1) ?_
                  refine wl_call rfl rfl rfl (en_call rfl rfl) (post_err (acc l) ⟨2000, 2, 1, 300, 1 - (1 + md by_ 1000)⟩ 1 g _ _ hgd (by omega) (perr1 (by unfold okE; simp only []; omega)) (by decide)) ?_
                  rintro _ _ ⟨rfl, rfl⟩
                  refine wl_read rfl rfl rfl ((yp_eql rfl rfl rfl).1 rfl) ?_
                  refine wl_read rfl rfl rfl (yl_pickT rfl rfl rfl) ?_
                  refine wl_read rfl rfl rfl (yl_move rfl rfl) ?_
                  refine wl_read rfl rfl rfl (yl_move rfl rfl) ?_
                  refine wl_call rfl rfl rfl (en_call rfl rfl) (entries_fn _ g _ _ (by omega)) ?_
                  rintro _ _ ⟨Ap, cp, rfl, rfl⟩
                  refine wl_read rfl rfl rfl (yl_len rfl rfl Try.underlying27) ?_
                  refine wl_read rfl rfl rfl (yl_move rfl rfl) ?_
                  refine wl_read rfl rfl rfl ((yp_eql rfl rfl rfl).1 rfl) ?_
                  refine wl_read rfl rfl rfl (yl_pickT rfl rfl rfl) ?_
                  refine wl_read rfl rfl rfl (yl_move rfl rfl) ?_
                  refine wl_read rfl rfl rfl (yl_move rfl rfl) ?_
                  refine wl_heap (fun _ hw => hw.front1) ?_
                  refine wl_call rfl rfl rfl (en_call rfl rfl) (settled_fn _ g _ _) ?_
                  rintro _ _ ⟨rfl, rfl⟩
                  refine wl_read rfl rfl rfl (yl_move rfl rfl) ?_
                  refine wl_read rfl rfl rfl ((yp_eql rfl rfl rfl).1 rfl) ?_
                  refine wl_read rfl rfl rfl (yl_pickT rfl rfl rfl) ?_
                  refine wl_read rfl rfl rfl (yl_assign rfl rfl) ?_
                  refine wl_nil ?_
                  refine at_keep (Keep.cons 0 rfl (Keep.cons 1 rfl (Keep.cons 2 rfl (Keep.cons 6 rfl (Keep.cons 7 rfl (Keep.cons 8 rfl (Keep.cons 9 rfl (Keep.cons 10 rfl (Keep.cons 11 rfl (Keep.cons 27 rfl (Keep.cons 32 rfl (Keep.cons 37 rfl (Keep.cons 42 rfl (Keep.cons 47 rfl (Keep.cons 52 rfl (Keep.cons 57 rfl (Keep.cons 62 rfl (Keep.cons 67 rfl Keep.nil)))))))))))))))))) ?_
                  refine at_retH (fun _ hw => hw.tail.tail.tail.tail.tail.tail) Try.func3 (res1 rfl rfl) ?_
                  exact ⟨rfl, rfl⟩
                · intro h22_0
                  refine wl_read rfl rfl rfl (yl_assign rfl rfl) ?_
                  refine wl_nil ?_
                  refine at_keep (Keep.cons 0 rfl (Keep.cons 1 rfl (Keep.cons 2 rfl (Keep.cons 6 rfl (Keep.cons 7 rfl (Keep.cons 8 rfl (Keep.cons 9 rfl (Keep.cons 10 rfl (Keep.cons 11 rfl (Keep.cons 27 rfl (Keep.cons 32 rfl (Keep.cons 37 rfl (Keep.cons 42 rfl (Keep.cons 47 rfl (Keep.cons 52 rfl (Keep.cons 57 rfl (Keep.cons 62 rfl (Keep.cons 67 rfl Keep.nil)))))))))))))))))) ?_
                  refine at_false rfl ?_
                  
                  refine at_region ?_
                  refine wl_read rfl rfl rfl (yl_move rfl rfl) ?_
                  refine wl_read rfl rfl rfl (yl_fieldB rfl rfl Try.underlying33 rfl (by kernel_rfl) rfl) ?_
                  refine wl_store rfl rfl (es_at0 (es_store 0 rfl rfl rfl rfl (by kernel_rfl) rfl rfl)) ?_
                  refine wl_read rfl rfl rfl (yl_fieldB rfl rfl Try.underlying33 rfl (by kernel_rfl) rfl) ?_
                  refine wl_store rfl rfl (es_at0 (es_store 0 rfl rfl rfl rfl (by kernel_rfl) rfl rfl)) ?_
                  refine wl_read rfl rfl rfl (yl_fieldB rfl rfl Try.underlying33 rfl (by kernel_rfl) rfl) ?_
                  refine wl_store rfl rfl (es_at0 (es_store 0 rfl rfl rfl rfl (by kernel_rfl) rfl rfl)) ?_
                  refine wl_nil ?_
                  refine at_keep (Keep.cons 0 rfl (Keep.cons 1 rfl (Keep.cons 2 rfl (Keep.cons 6 rfl (Keep.cons 7 rfl (Keep.cons 8 rfl (Keep.cons 9 rfl (Keep.cons 10 rfl (Keep.cons 11 rfl (Keep.cons 27 rfl (Keep.cons 32 rfl (Keep.cons 37 rfl (Keep.cons 42 rfl (Keep.cons 47 rfl (Keep.cons 52 rfl (Keep.cons 57 rfl (Keep.cons 62 rfl (Keep.cons 67 rfl Keep.nil)))))))))))))))))) ?_
                  refine at_inBlock ?_
                  refine at_seq ?_
                  
                  refine at_region ?_
                  refine wl_call rfl rfl rfl (en_call rfl rfl) (awake_fn _ _) ?_
                  rintro _ _ ⟨rfl, rfl⟩
                  refine wl_read rfl rfl rfl (yl_move rfl rfl) ?_
                  refine wl_read rfl rfl rfl (yl_move rfl rfl) ?_
                  refine wl_read rfl rfl rfl (yl_loadBk 0 rfl rfl rfl Try.underlying33 rfl (by kernel_rfl)) ?_
                  refine wl_heap (fun _ hw => hw.front1) ?_
                  refine wl_call rfl rfl rfl (en_call rfl rfl) (post_err (acc l) ⟨2000, 1, 1 + md by_ 1000, 0, 5⟩ 1 g _ _ hgd (by omega) (perr1 (by unfold okE; simp only []; omega)) (by decide)) ?_
                  rintro _ _ ⟨rfl, rfl⟩
                  refine wl_read rfl rfl rfl ((yp_eql rfl rfl rfl).1 rfl) ?_
                  refine wl_read rfl rfl rfl (yl_pickT rfl rfl rfl) ?_
                  refine wl_read rfl rfl rfl (yl_move rfl rfl) ?_
                  refine wl_read rfl rfl rfl (yl_move rfl rfl) ?_
                  refine wl_call rfl rfl rfl (en_call rfl rfl) (entries_fn _ g _ _ (by omega)) ?_
                  rintro _ _ ⟨Ap, cp, rfl, rfl⟩
                  refine wl_read rfl rfl rfl (yl_len rfl rfl Try.underlying27) ?_
                  refine wl_read rfl rfl rfl (yl_move rfl rfl) ?_
                  refine wl_read rfl rfl rfl ((yp_eql rfl rfl rfl).1 rfl) ?_
                  refine wl_read rfl rfl rfl (yl_pickT rfl rfl rfl) ?_
                  refine wl_read rfl rfl rfl (yl_move rfl rfl) ?_
                  refine wl_read rfl rfl rfl (yl_move rfl rfl) ?_
                  refine wl_heap (fun _ hw => hw.front1) ?_
                  refine wl_call rfl rfl rfl (en_call rfl rfl) (settled_fn _ g _ _) ?_
                  rintro _ _ ⟨rfl, rfl⟩
                  refine wl_read rfl rfl rfl (yl_move rfl rfl) ?_
                  refine wl_read rfl rfl rfl ((yp_eql rfl rfl rfl).1 rfl) ?_
                  refine wl_read rfl rfl rfl (yl_pickT rfl rfl rfl) ?_
                  refine wl_read rfl rfl rfl (yl_assign rfl rfl) ?_
                  refine wl_nil ?_
                  refine at_keep (Keep.cons 0 rfl (Keep.cons 1 rfl (Keep.cons 2 rfl (Keep.cons 6 rfl (Keep.cons 7 rfl (Keep.cons 8 rfl (Keep.cons 9 rfl (Keep.cons 10 rfl (Keep.cons 11 rfl (Keep.cons 27 rfl (Keep.cons 32 rfl (Keep.cons 37 rfl (Keep.cons 42 rfl (Keep.cons 47 rfl (Keep.cons 52 rfl (Keep.cons 57 rfl (Keep.cons 62 rfl (Keep.cons 67 rfl Keep.nil)))))))))))))))))) ?_
                  refine at_retH (fun _ hw => hw.tail.tail.tail.tail.tail.tail) Try.func3 (res1 rfl rfl) ?_
                  exact ⟨rfl, rfl⟩
theorem law4 (l : List Raw) (A : Option Addr) (c : Nat) (kind : Int) (with_ : Int) (number : Int) (amount : Int) (b : World) (H : List Asr) (hR : Rd H A l) (ha : ∀ i, i < l.length → I64 (at_ l i).amount) : Fn Try.prog 4 [.slice A l.length c, .int .i64 kind, .int .i64 with_, .int .i64 number, .int .i64 amount] b H (fun v H' => v = .bool true ∧ H = H') := by
  have hgd := acc_good l
  have hln := acc_length l
  have hm1 := md_bd kind 2 (by decide)
  have hm2 := md_bd with_ 6 (by decide)
  have hm3 := md_bd number 999 (by decide)
  have hm4 := md_bd amount 100 (by decide)
  generalize he : (⟨2000, 2 + md kind 2, md with_ 6, 1 + md number 999, 1 + md amount 100⟩ : Entry) = e
  have hv : okE e := by subst he; unfold okE; simp only []; omega
  have hk : e.kind ≠ 1 := by subst he; simp only []; omega
  have hnold : ¬ old (acc l) e.month := fun h => by
    obtain ⟨i, hi, hm⟩ := old_iff.1 h
    have := acc_month l i hi
    subst he
    simp only [] at hm; omega
  have hnold2 : ¬ old (acc l ++ [e]) e.month := fun h => by
    obtain ⟨i, hi, hm⟩ := old_iff.1 h
    rw [List.length_append, List.length_singleton] at hi
    rcases Nat.lt_or_ge i (acc l).length with h1 | h1
    · rw [at_app_left h1] at hm
      have := acc_month l i h1
      subst he
      simp only [] at hm; omega
    · obtain rfl : i = (acc l).length := by omega
      rw [at_app_last] at hm; omega
  rcases Classical.em (0 < cnt (acc l) e.key) with hc | hc
  · have hp : perr (acc l) e = 10 := perr10 hv hnold ⟨hk, hc⟩
    subst he
    have hc2 := hc
    have hgd2 := hgd
    have hp2 := hp
    refine fn_of_at (by kernel_rfl) Try.func4 rfl Try.ntmps4 rfl rfl ?_
    refine at_seq ?_
    refine at_region ?_
    refine wl_read rfl rfl rfl (yl_assign rfl rfl) ?_
    refine wl_nil ?_
    refine at_keep (Keep.cons 0 rfl (Keep.cons 1 rfl (Keep.cons 2 rfl (Keep.cons 3 rfl (Keep.cons 4 rfl (Keep.cons 10 rfl Keep.nil)))))) ?_
    refine at_seq ?_
    refine at_region ?_
    refine wl_call rfl rfl rfl (en_call rfl rfl) (new_fn _ _) ?_
    rintro _ _ ⟨g, rfl, rfl⟩
    refine wl_read rfl rfl rfl (yl_assign rfl rfl) ?_
    refine wl_nil ?_
    refine at_keep (Keep.cons 0 rfl (Keep.cons 1 rfl (Keep.cons 2 rfl (Keep.cons 3 rfl (Keep.cons 4 rfl (Keep.cons 10 rfl (Keep.cons 11 rfl Keep.nil))))))) ?_
    refine at_seq ?_
    refine at_region ?_
    refine wl_read rfl rfl rfl (yl_move rfl rfl) ?_
    refine wl_read rfl rfl rfl (yl_move rfl rfl) ?_
    refine wl_call rfl rfl rfl (en_call rfl rfl) (entraw_fn l A c _ _ (hR.cons _) ha) ?_
    rintro _ _ ⟨A1, c1, rfl, rfl⟩
    refine wl_heap (fun _ hw => hw.front1) ?_
    refine wl_call rfl rfl rfl (en_call rfl rfl) (play_acc l g _ _ _ _ (Rd.of_sl 0 rfl)) ?_
    rintro _ _ ⟨A2, c2, rfl, rfl⟩
    refine wl_nil ?_
    refine at_keep (Keep.cons 0 rfl (Keep.cons 1 rfl (Keep.cons 2 rfl (Keep.cons 3 rfl (Keep.cons 4 rfl (Keep.cons 10 rfl (Keep.cons 11 rfl Keep.nil))))))) ?_
    refine at_seq ?_
    refine at_region ?_
    refine wl_read rfl rfl rfl (yl_move rfl rfl) ?_
    refine wl_call rfl rfl rfl (en_call rfl rfl) (mod_fn _ _ _ _ (by decide) (by decide)) ?_
    rintro _ _ ⟨rfl, rfl⟩
    refine wl_read rfl rfl rfl (yl_add rfl rfl rfl (w64 (by omega) (by omega))) ?_
    refine wl_read rfl rfl rfl (yl_move rfl rfl) ?_
    refine wl_call rfl rfl rfl (en_call rfl rfl) (mod_fn _ _ _ _ (by decide) (by decide)) ?_
    rintro _ _ ⟨rfl, rfl⟩
    refine wl_read rfl rfl rfl (yl_move rfl rfl) ?_
    refine wl_call rfl rfl rfl (en_call rfl rfl) (mod_fn _ _ _ _ (by decide) (by decide)) ?_
    rintro _ _ ⟨rfl, rfl⟩
    refine wl_read rfl rfl rfl (yl_add rfl rfl rfl (w64 (by omega) (by omega))) ?_
    refine wl_read rfl rfl rfl (yl_move rfl rfl) ?_
    refine wl_call rfl rfl rfl (en_call rfl rfl) (mod_fn _ _ _ _ (by decide) (by decide)) ?_
    rintro _ _ ⟨rfl, rfl⟩
    refine wl_read rfl rfl rfl (yl_add rfl rfl rfl (w64 (by omega) (by omega))) ?_
    refine wl_read rfl rfl rfl (yl_build (cs := Enc.cells (⟨2000, 2 + md kind 2, md with_ 6, 1 + md number 999, 1 + md amount 100⟩ : Entry)) rfl rfl (fun _ => by kernel_rfl)) ?_
    refine wl_eff rfl rfl rfl (ef_alloc (cs := [.int .i64 0, .int .i64 0, .int .i64 0, .int .i64 0, .int .i64 0]) (z := .agg #[.int .i64 0, .int .i64 0, .int .i64 0, .int .i64 0, .int .i64 0]) rfl (by kernel_rfl) rfl) ?_
    rintro _ _ ⟨ge, rfl, rfl⟩
    refine wl_store rfl rfl (es_at0 (es_storeN 0 rfl rfl rfl rfl (by kernel_rfl) rfl rfl)) ?_
    refine wl_nil ?_
    refine at_keep (Keep.cons 0 rfl (Keep.cons 1 rfl (Keep.cons 2 rfl (Keep.cons 3 rfl (Keep.cons 4 rfl (Keep.cons 10 rfl (Keep.cons 11 rfl (Keep.cons 12 rfl Keep.nil)))))))) ?_
    refine at_seq ?_
    refine at_region ?_
    refine wl_read rfl rfl rfl (yl_move rfl rfl) ?_
    refine wl_read rfl rfl rfl (yl_fieldB rfl rfl Try.underlying33 rfl (by kernel_rfl) rfl) ?_
    refine wl_read rfl rfl rfl (yl_load rfl rfl Try.underlying3 rfl (CellAt.bk 0 rfl rfl)) ?_
    refine wl_read rfl rfl rfl (yl_fieldB rfl rfl Try.underlying33 rfl (by kernel_rfl) rfl) ?_
    refine wl_read rfl rfl rfl (yl_load rfl rfl Try.underlying3 rfl (CellAt.bk 0 rfl rfl)) ?_
    refine wl_read rfl rfl rfl (yl_fieldB rfl rfl Try.underlying33 rfl (by kernel_rfl) rfl) ?_
    refine wl_read rfl rfl rfl (yl_load rfl rfl Try.underlying3 rfl (CellAt.bk 0 rfl rfl)) ?_
    refine wl_heap (fun _ hw => hw.front2) ?_
    refine wl_call rfl rfl rfl (en_call rfl rfl) (has_is (acc l) (Entry.key (⟨2000, 2 + md kind 2, md with_ 6, 1 + md number 999, 1 + md amount 100⟩ : Entry)) true g _ _ (decide_eq_true hc)) ?_
    rintro _ _ ⟨rfl, rfl⟩
    refine wl_read rfl rfl rfl (yl_assign rfl rfl) ?_
    refine wl_nil ?_
    refine at_keep (Keep.cons 0 rfl (Keep.cons 1 rfl (Keep.cons 2 rfl (Keep.cons 3 rfl (Keep.cons 4 rfl (Keep.cons 10 rfl (Keep.cons 11 rfl (Keep.cons 12 rfl (Keep.cons 13 rfl Keep.nil))))))))) ?_
    refine at_seq ?_
    refine at_region ?_
    refine wl_read rfl rfl rfl (yl_move rfl rfl) ?_
    refine wl_read rfl rfl rfl (yl_loadBk 1 rfl rfl rfl Try.underlying33 rfl (by kernel_rfl)) ?_
    refine wl_call rfl rfl rfl (en_call rfl rfl) (post_err (acc l) (⟨2000, 2 + md kind 2, md with_ 6, 1 + md number 999, 1 + md amount 100⟩ : Entry) 10 g _ _ hgd (by omega) hp (by decide)) ?_
    rintro _ _ ⟨rfl, rfl⟩
    refine wl_read rfl rfl rfl (yl_assign rfl rfl) ?_
    refine wl_nil ?_
    refine at_keep (Keep.cons 0 rfl (Keep.cons 1 rfl (Keep.cons 2 rfl (Keep.cons 3 rfl (Keep.cons 4 rfl (Keep.cons 10 rfl (Keep.cons 11 rfl (Keep.cons 12 rfl (Keep.cons 13 rfl (Keep.cons 14 rfl Keep.nil)))))))))) ?_
    refine at_seq ?_
    refine at_region ?_
    refine wl_read rfl rfl rfl (yl_move rfl rfl) ?_
    refine wl_call rfl rfl rfl (en_call rfl rfl) (settled_fn _ g _ _) ?_
    rintro _ _ ⟨rfl, rfl⟩
    refine wl_read rfl rfl rfl (yl_assign rfl rfl) ?_
    refine wl_nil ?_
    refine at_keep (Keep.cons 0 rfl (Keep.cons 1 rfl (Keep.cons 2 rfl (Keep.cons 3 rfl (Keep.cons 4 rfl (Keep.cons 10 rfl (Keep.cons 11 rfl (Keep.cons 12 rfl (Keep.cons 13 rfl (Keep.cons 14 rfl (Keep.cons 15 rfl Keep.nil))))))))))) ?_
    refine at_seq ?_
    refine at_seq ?_
    refine at_region ?_
    refine wl_call rfl rfl rfl (en_call rfl rfl) (awake_fn _ _) ?_
    rintro _ _ ⟨rfl, rfl⟩
    refine wl_read rfl rfl rfl (yl_notT rfl rfl) ?_
    refine wl_read rfl rfl rfl (yl_move rfl rfl) ?_
    refine wl_read rfl rfl rfl (yl_move rfl rfl) ?_
    refine wl_read rfl rfl rfl (yl_move rfl rfl) ?_
    refine wl_read rfl rfl rfl ((yp_eql rfl rfl rfl).1 rfl) ?_
    refine wl_read rfl rfl rfl ((yp_neb rfl rfl rfl Try.underlying4).2 (by simp)) ?_
    refine wl_read rfl rfl rfl (yl_pickF rfl rfl rfl) ?_
    refine wl_nil ?_
    refine at_keep (Keep.cons 0 rfl (Keep.cons 1 rfl (Keep.cons 2 rfl (Keep.cons 3 rfl (Keep.cons 4 rfl (Keep.cons 10 rfl (Keep.cons 11 rfl (Keep.cons 12 rfl (Keep.cons 13 rfl (Keep.cons 14 rfl (Keep.cons 15 rfl (Keep.cons 53 rfl Keep.nil)))))))))))) ?_
    refine at_false rfl ?_
    refine at_skip ?_
    refine at_seq ?_
    refine at_seq ?_
    refine at_region ?_
    refine wl_read rfl rfl rfl (yl_move rfl rfl) ?_
    refine wl_read rfl rfl rfl ((yp_eql rfl rfl rfl).2 (by decide)) ?_
    refine wl_nil ?_
    refine at_keep (Keep.cons 0 rfl (Keep.cons 1 rfl (Keep.cons 2 rfl (Keep.cons 3 rfl (Keep.cons 4 rfl (Keep.cons 10 rfl (Keep.cons 11 rfl (Keep.cons 12 rfl (Keep.cons 13 rfl (Keep.cons 14 rfl (Keep.cons 15 rfl (Keep.cons 53 rfl (Keep.cons 55 rfl Keep.nil))))))))))))) ?_
    refine at_false rfl ?_
    refine at_skip ?_
    refine at_seq ?_
    refine at_region ?_
    refine wl_read rfl rfl rfl (yl_move rfl rfl) ?_
    refine wl_read rfl rfl rfl (yl_fieldB rfl rfl Try.underlying33 rfl (by kernel_rfl) rfl) ?_
    refine wl_read rfl rfl rfl (yl_load rfl rfl Try.underlying3 rfl (CellAt.bk 1 rfl rfl)) ?_
    refine wl_read rfl rfl rfl (yl_fieldB rfl rfl Try.underlying33 rfl (by kernel_rfl) rfl) ?_
    refine wl_read rfl rfl rfl (yl_load rfl rfl Try.underlying3 rfl (CellAt.bk 1 rfl rfl)) ?_
    refine wl_read rfl rfl rfl (yl_fieldB rfl rfl Try.underlying33 rfl (by kernel_rfl) rfl) ?_
    refine wl_read rfl rfl rfl (yl_load rfl rfl Try.underlying3 rfl (CellAt.bk 1 rfl rfl)) ?_
    refine wl_call rfl rfl rfl (en_call rfl rfl) (has_is (acc l) (Entry.key (⟨2000, 2 + md kind 2, md with_ 6, 1 + md number 999, 1 + md amount 100⟩ : Entry)) true g _ _ (decide_eq_true hc2)) ?_
    rintro _ _ ⟨rfl, rfl⟩
    refine wl_read rfl rfl rfl (yl_move rfl rfl) ?_
    refine wl_read rfl rfl rfl (yl_move rfl rfl) ?_
    refine wl_read rfl rfl rfl (yl_loadBk 1 rfl rfl rfl Try.underlying33 rfl (by kernel_rfl)) ?_
    refine wl_call rfl rfl rfl (en_call rfl rfl) (post_err (acc l) (⟨2000, 2 + md kind 2, md with_ 6, 1 + md number 999, 1 + md amount 100⟩ : Entry) 10 g _ _ hgd2 (by omega) hp2 (by decide)) ?_
    rintro _ _ ⟨rfl, rfl⟩
    refine wl_read rfl rfl rfl ((yp_eql rfl rfl rfl).1 rfl) ?_
    refine wl_read rfl rfl rfl (yl_pickT rfl rfl rfl) ?_
    refine wl_read rfl rfl rfl (yl_move rfl rfl) ?_
    refine wl_read rfl rfl rfl (yl_move rfl rfl) ?_
    refine wl_call rfl rfl rfl (en_call rfl rfl) (settled_fn _ g _ _) ?_
    rintro _ _ ⟨rfl, rfl⟩
    refine wl_read rfl rfl rfl (yl_move rfl rfl) ?_
    refine wl_read rfl rfl rfl ((yp_eql rfl rfl rfl).1 rfl) ?_
    refine wl_read rfl rfl rfl (yl_pickT rfl rfl rfl) ?_
    refine wl_read rfl rfl rfl (yl_assign rfl rfl) ?_
    refine wl_nil ?_
    refine at_keep (Keep.cons 0 rfl (Keep.cons 1 rfl (Keep.cons 2 rfl (Keep.cons 3 rfl (Keep.cons 4 rfl (Keep.cons 10 rfl (Keep.cons 11 rfl (Keep.cons 12 rfl (Keep.cons 13 rfl (Keep.cons 14 rfl (Keep.cons 15 rfl (Keep.cons 53 rfl (Keep.cons 55 rfl Keep.nil))))))))))))) ?_
    refine at_retH (fun _ hw => hw.tail.tail.tail.tail) Try.func4 (res1 rfl rfl) ?_
    exact ⟨rfl, rfl⟩
  rcases Classical.em (wide (nst (acc l) e)) with hw | hw
  · have hp : perr (acc l) e = 2 := perr2 hv hnold (fun h => hc h.2) hw
    subst he
    refine fn_of_at (by kernel_rfl) Try.func4 rfl Try.ntmps4 rfl rfl ?_
    refine at_seq ?_
    refine at_region ?_
    refine wl_read rfl rfl rfl (yl_assign rfl rfl) ?_
    refine wl_nil ?_
    refine at_keep (Keep.cons 0 rfl (Keep.cons 1 rfl (Keep.cons 2 rfl (Keep.cons 3 rfl (Keep.cons 4 rfl (Keep.cons 10 rfl Keep.nil)))))) ?_
    refine at_seq ?_
    refine at_region ?_
    refine wl_call rfl rfl rfl (en_call rfl rfl) (new_fn _ _) ?_
    rintro _ _ ⟨g, rfl, rfl⟩
    refine wl_read rfl rfl rfl (yl_assign rfl rfl) ?_
    refine wl_nil ?_
    refine at_keep (Keep.cons 0 rfl (Keep.cons 1 rfl (Keep.cons 2 rfl (Keep.cons 3 rfl (Keep.cons 4 rfl (Keep.cons 10 rfl (Keep.cons 11 rfl Keep.nil))))))) ?_
    refine at_seq ?_
    refine at_region ?_
    refine wl_read rfl rfl rfl (yl_move rfl rfl) ?_
    refine wl_read rfl rfl rfl (yl_move rfl rfl) ?_
    refine wl_call rfl rfl rfl (en_call rfl rfl) (entraw_fn l A c _ _ (hR.cons _) ha) ?_
    rintro _ _ ⟨A1, c1, rfl, rfl⟩
    refine wl_heap (fun _ hw => hw.front1) ?_
    refine wl_call rfl rfl rfl (en_call rfl rfl) (play_acc l g _ _ _ _ (Rd.of_sl 0 rfl)) ?_
    rintro _ _ ⟨A2, c2, rfl, rfl⟩
    refine wl_nil ?_
    refine at_keep (Keep.cons 0 rfl (Keep.cons 1 rfl (Keep.cons 2 rfl (Keep.cons 3 rfl (Keep.cons 4 rfl (Keep.cons 10 rfl (Keep.cons 11 rfl Keep.nil))))))) ?_
    refine at_seq ?_
    refine at_region ?_
    refine wl_read rfl rfl rfl (yl_move rfl rfl) ?_
    refine wl_call rfl rfl rfl (en_call rfl rfl) (mod_fn _ _ _ _ (by decide) (by decide)) ?_
    rintro _ _ ⟨rfl, rfl⟩
    refine wl_read rfl rfl rfl (yl_add rfl rfl rfl (w64 (by omega) (by omega))) ?_
    refine wl_read rfl rfl rfl (yl_move rfl rfl) ?_
    refine wl_call rfl rfl rfl (en_call rfl rfl) (mod_fn _ _ _ _ (by decide) (by decide)) ?_
    rintro _ _ ⟨rfl, rfl⟩
    refine wl_read rfl rfl rfl (yl_move rfl rfl) ?_
    refine wl_call rfl rfl rfl (en_call rfl rfl) (mod_fn _ _ _ _ (by decide) (by decide)) ?_
    rintro _ _ ⟨rfl, rfl⟩
    refine wl_read rfl rfl rfl (yl_add rfl rfl rfl (w64 (by omega) (by omega))) ?_
    refine wl_read rfl rfl rfl (yl_move rfl rfl) ?_
    refine wl_call rfl rfl rfl (en_call rfl rfl) (mod_fn _ _ _ _ (by decide) (by decide)) ?_
    rintro _ _ ⟨rfl, rfl⟩
    refine wl_read rfl rfl rfl (yl_add rfl rfl rfl (w64 (by omega) (by omega))) ?_
    refine wl_read rfl rfl rfl (yl_build (cs := Enc.cells (⟨2000, 2 + md kind 2, md with_ 6, 1 + md number 999, 1 + md amount 100⟩ : Entry)) rfl rfl (fun _ => by kernel_rfl)) ?_
    refine wl_eff rfl rfl rfl (ef_alloc (cs := [.int .i64 0, .int .i64 0, .int .i64 0, .int .i64 0, .int .i64 0]) (z := .agg #[.int .i64 0, .int .i64 0, .int .i64 0, .int .i64 0, .int .i64 0]) rfl (by kernel_rfl) rfl) ?_
    rintro _ _ ⟨ge, rfl, rfl⟩
    refine wl_store rfl rfl (es_at0 (es_storeN 0 rfl rfl rfl rfl (by kernel_rfl) rfl rfl)) ?_
    refine wl_nil ?_
    refine at_keep (Keep.cons 0 rfl (Keep.cons 1 rfl (Keep.cons 2 rfl (Keep.cons 3 rfl (Keep.cons 4 rfl (Keep.cons 10 rfl (Keep.cons 11 rfl (Keep.cons 12 rfl Keep.nil)))))))) ?_
    refine at_seq ?_
    refine at_region ?_
    refine wl_read rfl rfl rfl (yl_move rfl rfl) ?_
    refine wl_read rfl rfl rfl (yl_fieldB rfl rfl Try.underlying33 rfl (by kernel_rfl) rfl) ?_
    refine wl_read rfl rfl rfl (yl_load rfl rfl Try.underlying3 rfl (CellAt.bk 0 rfl rfl)) ?_
    refine wl_read rfl rfl rfl (yl_fieldB rfl rfl Try.underlying33 rfl (by kernel_rfl) rfl) ?_
    refine wl_read rfl rfl rfl (yl_load rfl rfl Try.underlying3 rfl (CellAt.bk 0 rfl rfl)) ?_
    refine wl_read rfl rfl rfl (yl_fieldB rfl rfl Try.underlying33 rfl (by kernel_rfl) rfl) ?_
    refine wl_read rfl rfl rfl (yl_load rfl rfl Try.underlying3 rfl (CellAt.bk 0 rfl rfl)) ?_
    refine wl_heap (fun _ hw => hw.front2) ?_
    refine wl_call rfl rfl rfl (en_call rfl rfl) (has_is (acc l) (Entry.key (⟨2000, 2 + md kind 2, md with_ 6, 1 + md number 999, 1 + md amount 100⟩ : Entry)) false g _ _ (decide_eq_false hc)) ?_
    rintro _ _ ⟨rfl, rfl⟩
    refine wl_read rfl rfl rfl (yl_assign rfl rfl) ?_
    refine wl_nil ?_
    refine at_keep (Keep.cons 0 rfl (Keep.cons 1 rfl (Keep.cons 2 rfl (Keep.cons 3 rfl (Keep.cons 4 rfl (Keep.cons 10 rfl (Keep.cons 11 rfl (Keep.cons 12 rfl (Keep.cons 13 rfl Keep.nil))))))))) ?_
    refine at_seq ?_
    refine at_region ?_
    refine wl_read rfl rfl rfl (yl_move rfl rfl) ?_
    refine wl_read rfl rfl rfl (yl_loadBk 1 rfl rfl rfl Try.underlying33 rfl (by kernel_rfl)) ?_
    refine wl_call rfl rfl rfl (en_call rfl rfl) (post_err (acc l) (⟨2000, 2 + md kind 2, md with_ 6, 1 + md number 999, 1 + md amount 100⟩ : Entry) 2 g _ _ hgd (by omega) hp (by decide)) ?_
    rintro _ _ ⟨rfl, rfl⟩
    refine wl_read rfl rfl rfl (yl_assign rfl rfl) ?_
    refine wl_nil ?_
    refine at_keep (Keep.cons 0 rfl (Keep.cons 1 rfl (Keep.cons 2 rfl (Keep.cons 3 rfl (Keep.cons 4 rfl (Keep.cons 10 rfl (Keep.cons 11 rfl (Keep.cons 12 rfl (Keep.cons 13 rfl (Keep.cons 14 rfl Keep.nil)))))))))) ?_
    refine at_seq ?_
    refine at_region ?_
    refine wl_read rfl rfl rfl (yl_move rfl rfl) ?_
    refine wl_call rfl rfl rfl (en_call rfl rfl) (settled_fn _ g _ _) ?_
    rintro _ _ ⟨rfl, rfl⟩
    refine wl_read rfl rfl rfl (yl_assign rfl rfl) ?_
    refine wl_nil ?_
    refine at_keep (Keep.cons 0 rfl (Keep.cons 1 rfl (Keep.cons 2 rfl (Keep.cons 3 rfl (Keep.cons 4 rfl (Keep.cons 10 rfl (Keep.cons 11 rfl (Keep.cons 12 rfl (Keep.cons 13 rfl (Keep.cons 14 rfl (Keep.cons 15 rfl Keep.nil))))))))))) ?_
    refine at_seq ?_
    refine at_seq ?_
    refine at_region ?_
    refine wl_call rfl rfl rfl (en_call rfl rfl) (awake_fn _ _) ?_
    rintro _ _ ⟨rfl, rfl⟩
    refine wl_read rfl rfl rfl (yl_notT rfl rfl) ?_
    refine wl_read rfl rfl rfl (yl_move rfl rfl) ?_
    refine wl_read rfl rfl rfl (yl_move rfl rfl) ?_
    refine wl_read rfl rfl rfl (yl_move rfl rfl) ?_
    refine wl_read rfl rfl rfl ((yp_eql rfl rfl rfl).2 (by decide)) ?_
    refine wl_read rfl rfl rfl ((yp_neb rfl rfl rfl Try.underlying4).2 (by simp)) ?_
    refine wl_read rfl rfl rfl (yl_pickF rfl rfl rfl) ?_
    refine wl_nil ?_
    refine at_keep (Keep.cons 0 rfl (Keep.cons 1 rfl (Keep.cons 2 rfl (Keep.cons 3 rfl (Keep.cons 4 rfl (Keep.cons 10 rfl (Keep.cons 11 rfl (Keep.cons 12 rfl (Keep.cons 13 rfl (Keep.cons 14 rfl (Keep.cons 15 rfl (Keep.cons 53 rfl Keep.nil)))))))))))) ?_
    refine at_false rfl ?_
    refine at_skip ?_
    refine at_seq ?_
    refine at_seq ?_
    refine at_region ?_
    refine wl_read rfl rfl rfl (yl_move rfl rfl) ?_
    refine wl_read rfl rfl rfl ((yp_eql rfl rfl rfl).1 rfl) ?_
    refine wl_nil ?_
    refine at_keep (Keep.cons 0 rfl (Keep.cons 1 rfl (Keep.cons 2 rfl (Keep.cons 3 rfl (Keep.cons 4 rfl (Keep.cons 10 rfl (Keep.cons 11 rfl (Keep.cons 12 rfl (Keep.cons 13 rfl (Keep.cons 14 rfl (Keep.cons 15 rfl (Keep.cons 53 rfl (Keep.cons 55 rfl Keep.nil))))))))))))) ?_
    refine at_true rfl ?_
    refine at_seq ?_
    refine at_region ?_
    refine wl_read rfl rfl rfl (yl_assign rfl rfl) ?_
    refine wl_nil ?_
    refine at_keep (Keep.cons 0 rfl (Keep.cons 1 rfl (Keep.cons 2 rfl (Keep.cons 3 rfl (Keep.cons 4 rfl (Keep.cons 10 rfl (Keep.cons 11 rfl (Keep.cons 12 rfl (Keep.cons 13 rfl (Keep.cons 14 rfl (Keep.cons 15 rfl (Keep.cons 53 rfl (Keep.cons 55 rfl Keep.nil))))))))))))) ?_
    refine at_retH (fun _ hw => hw.tail.tail.tail.tail) Try.func4 (res1 rfl rfl) ?_
    exact ⟨rfl, rfl⟩
  · have hp : perr (acc l) e = 0 := perr0 hv hnold (fun h => hc h.2) hw
    have hgd2 : Good (acc l ++ [e]) := by have := hgd.next e; rwa [pnext_yes hp] at this
    have hc2 : 0 < cnt (acc l ++ [e]) e.key := by have := cnt_bd (acc l) e.key; rw [cnt_app, if_pos rfl]; omega
    have hp2 : perr (acc l ++ [e]) e = 10 := perr10 hv hnold2 ⟨hk, hc2⟩
    subst he
    refine fn_of_at (by kernel_rfl) Try.func4 rfl Try.ntmps4 rfl rfl ?_
    refine at_seq ?_
    refine at_region ?_
    refine wl_read rfl rfl rfl (yl_assign rfl rfl) ?_
    refine wl_nil ?_
    refine at_keep (Keep.cons 0 rfl (Keep.cons 1 rfl (Keep.cons 2 rfl (Keep.cons 3 rfl (Keep.cons 4 rfl (Keep.cons 10 rfl Keep.nil)))))) ?_
    refine at_seq ?_
    refine at_region ?_
    refine wl_call rfl rfl rfl (en_call rfl rfl) (new_fn _ _) ?_
    rintro _ _ ⟨g, rfl, rfl⟩
    refine wl_read rfl rfl rfl (yl_assign rfl rfl) ?_
    refine wl_nil ?_
    refine at_keep (Keep.cons 0 rfl (Keep.cons 1 rfl (Keep.cons 2 rfl (Keep.cons 3 rfl (Keep.cons 4 rfl (Keep.cons 10 rfl (Keep.cons 11 rfl Keep.nil))))))) ?_
    refine at_seq ?_
    refine at_region ?_
    refine wl_read rfl rfl rfl (yl_move rfl rfl) ?_
    refine wl_read rfl rfl rfl (yl_move rfl rfl) ?_
    refine wl_call rfl rfl rfl (en_call rfl rfl) (entraw_fn l A c _ _ (hR.cons _) ha) ?_
    rintro _ _ ⟨A1, c1, rfl, rfl⟩
    refine wl_heap (fun _ hw => hw.front1) ?_
    refine wl_call rfl rfl rfl (en_call rfl rfl) (play_acc l g _ _ _ _ (Rd.of_sl 0 rfl)) ?_
    rintro _ _ ⟨A2, c2, rfl, rfl⟩
    refine wl_nil ?_
    refine at_keep (Keep.cons 0 rfl (Keep.cons 1 rfl (Keep.cons 2 rfl (Keep.cons 3 rfl (Keep.cons 4 rfl (Keep.cons 10 rfl (Keep.cons 11 rfl Keep.nil))))))) ?_
    refine at_seq ?_
    refine at_region ?_
    refine wl_read rfl rfl rfl (yl_move rfl rfl) ?_
    refine wl_call rfl rfl rfl (en_call rfl rfl) (mod_fn _ _ _ _ (by decide) (by decide)) ?_
    rintro _ _ ⟨rfl, rfl⟩
    refine wl_read rfl rfl rfl (yl_add rfl rfl rfl (w64 (by omega) (by omega))) ?_
    refine wl_read rfl rfl rfl (yl_move rfl rfl) ?_
    refine wl_call rfl rfl rfl (en_call rfl rfl) (mod_fn _ _ _ _ (by decide) (by decide)) ?_
    rintro _ _ ⟨rfl, rfl⟩
    refine wl_read rfl rfl rfl (yl_move rfl rfl) ?_
    refine wl_call rfl rfl rfl (en_call rfl rfl) (mod_fn _ _ _ _ (by decide) (by decide)) ?_
    rintro _ _ ⟨rfl, rfl⟩
    refine wl_read rfl rfl rfl (yl_add rfl rfl rfl (w64 (by omega) (by omega))) ?_
    refine wl_read rfl rfl rfl (yl_move rfl rfl) ?_
    refine wl_call rfl rfl rfl (en_call rfl rfl) (mod_fn _ _ _ _ (by decide) (by decide)) ?_
    rintro _ _ ⟨rfl, rfl⟩
    refine wl_read rfl rfl rfl (yl_add rfl rfl rfl (w64 (by omega) (by omega))) ?_
    refine wl_read rfl rfl rfl (yl_build (cs := Enc.cells (⟨2000, 2 + md kind 2, md with_ 6, 1 + md number 999, 1 + md amount 100⟩ : Entry)) rfl rfl (fun _ => by kernel_rfl)) ?_
    refine wl_eff rfl rfl rfl (ef_alloc (cs := [.int .i64 0, .int .i64 0, .int .i64 0, .int .i64 0, .int .i64 0]) (z := .agg #[.int .i64 0, .int .i64 0, .int .i64 0, .int .i64 0, .int .i64 0]) rfl (by kernel_rfl) rfl) ?_
    rintro _ _ ⟨ge, rfl, rfl⟩
    refine wl_store rfl rfl (es_at0 (es_storeN 0 rfl rfl rfl rfl (by kernel_rfl) rfl rfl)) ?_
    refine wl_nil ?_
    refine at_keep (Keep.cons 0 rfl (Keep.cons 1 rfl (Keep.cons 2 rfl (Keep.cons 3 rfl (Keep.cons 4 rfl (Keep.cons 10 rfl (Keep.cons 11 rfl (Keep.cons 12 rfl Keep.nil)))))))) ?_
    refine at_seq ?_
    refine at_region ?_
    refine wl_read rfl rfl rfl (yl_move rfl rfl) ?_
    refine wl_read rfl rfl rfl (yl_fieldB rfl rfl Try.underlying33 rfl (by kernel_rfl) rfl) ?_
    refine wl_read rfl rfl rfl (yl_load rfl rfl Try.underlying3 rfl (CellAt.bk 0 rfl rfl)) ?_
    refine wl_read rfl rfl rfl (yl_fieldB rfl rfl Try.underlying33 rfl (by kernel_rfl) rfl) ?_
    refine wl_read rfl rfl rfl (yl_load rfl rfl Try.underlying3 rfl (CellAt.bk 0 rfl rfl)) ?_
    refine wl_read rfl rfl rfl (yl_fieldB rfl rfl Try.underlying33 rfl (by kernel_rfl) rfl) ?_
    refine wl_read rfl rfl rfl (yl_load rfl rfl Try.underlying3 rfl (CellAt.bk 0 rfl rfl)) ?_
    refine wl_heap (fun _ hw => hw.front2) ?_
    refine wl_call rfl rfl rfl (en_call rfl rfl) (has_is (acc l) (Entry.key (⟨2000, 2 + md kind 2, md with_ 6, 1 + md number 999, 1 + md amount 100⟩ : Entry)) false g _ _ (decide_eq_false hc)) ?_
    rintro _ _ ⟨rfl, rfl⟩
    refine wl_read rfl rfl rfl (yl_assign rfl rfl) ?_
    refine wl_nil ?_
    refine at_keep (Keep.cons 0 rfl (Keep.cons 1 rfl (Keep.cons 2 rfl (Keep.cons 3 rfl (Keep.cons 4 rfl (Keep.cons 10 rfl (Keep.cons 11 rfl (Keep.cons 12 rfl (Keep.cons 13 rfl Keep.nil))))))))) ?_
    refine at_seq ?_
    refine at_region ?_
    refine wl_read rfl rfl rfl (yl_move rfl rfl) ?_
    refine wl_read rfl rfl rfl (yl_loadBk 1 rfl rfl rfl Try.underlying33 rfl (by kernel_rfl)) ?_
    refine wl_call rfl rfl rfl (en_call rfl rfl) (post_ok (acc l) (⟨2000, 2 + md kind 2, md with_ 6, 1 + md number 999, 1 + md amount 100⟩ : Entry) g _ _ hgd (by omega) hp) ?_
    rintro _ _ ⟨rfl, rfl⟩
    refine wl_read rfl rfl rfl (yl_assign rfl rfl) ?_
    refine wl_nil ?_
    refine at_keep (Keep.cons 0 rfl (Keep.cons 1 rfl (Keep.cons 2 rfl (Keep.cons 3 rfl (Keep.cons 4 rfl (Keep.cons 10 rfl (Keep.cons 11 rfl (Keep.cons 12 rfl (Keep.cons 13 rfl (Keep.cons 14 rfl Keep.nil)))))))))) ?_
    refine at_seq ?_
    refine at_region ?_
    refine wl_read rfl rfl rfl (yl_move rfl rfl) ?_
    refine wl_call rfl rfl rfl (en_call rfl rfl) (settled_fn _ g _ _) ?_
    rintro _ _ ⟨rfl, rfl⟩
    refine wl_read rfl rfl rfl (yl_assign rfl rfl) ?_
    refine wl_nil ?_
    refine at_keep (Keep.cons 0 rfl (Keep.cons 1 rfl (Keep.cons 2 rfl (Keep.cons 3 rfl (Keep.cons 4 rfl (Keep.cons 10 rfl (Keep.cons 11 rfl (Keep.cons 12 rfl (Keep.cons 13 rfl (Keep.cons 14 rfl (Keep.cons 15 rfl Keep.nil))))))))))) ?_
    refine at_seq ?_
    refine at_seq ?_
    refine at_region ?_
    refine wl_call rfl rfl rfl (en_call rfl rfl) (awake_fn _ _) ?_
    rintro _ _ ⟨rfl, rfl⟩
    refine wl_read rfl rfl rfl (yl_notT rfl rfl) ?_
    refine wl_read rfl rfl rfl (yl_move rfl rfl) ?_
    refine wl_read rfl rfl rfl (yl_move rfl rfl) ?_
    refine wl_read rfl rfl rfl (yl_move rfl rfl) ?_
    refine wl_read rfl rfl rfl ((yp_eql rfl rfl rfl).2 (by decide)) ?_
    refine wl_read rfl rfl rfl ((yp_neb rfl rfl rfl Try.underlying4).2 (by simp)) ?_
    refine wl_read rfl rfl rfl (yl_pickF rfl rfl rfl) ?_
    refine wl_nil ?_
    refine at_keep (Keep.cons 0 rfl (Keep.cons 1 rfl (Keep.cons 2 rfl (Keep.cons 3 rfl (Keep.cons 4 rfl (Keep.cons 10 rfl (Keep.cons 11 rfl (Keep.cons 12 rfl (Keep.cons 13 rfl (Keep.cons 14 rfl (Keep.cons 15 rfl (Keep.cons 53 rfl Keep.nil)))))))))))) ?_
    refine at_false rfl ?_
    refine at_skip ?_
    refine at_seq ?_
    refine at_seq ?_
    refine at_region ?_
    refine wl_read rfl rfl rfl (yl_move rfl rfl) ?_
    refine wl_read rfl rfl rfl ((yp_eql rfl rfl rfl).2 (by decide)) ?_
    refine wl_nil ?_
    refine at_keep (Keep.cons 0 rfl (Keep.cons 1 rfl (Keep.cons 2 rfl (Keep.cons 3 rfl (Keep.cons 4 rfl (Keep.cons 10 rfl (Keep.cons 11 rfl (Keep.cons 12 rfl (Keep.cons 13 rfl (Keep.cons 14 rfl (Keep.cons 15 rfl (Keep.cons 53 rfl (Keep.cons 55 rfl Keep.nil))))))))))))) ?_
    refine at_false rfl ?_
    refine at_skip ?_
    refine at_seq ?_
    refine at_region ?_
    refine wl_read rfl rfl rfl (yl_move rfl rfl) ?_
    refine wl_read rfl rfl rfl (yl_fieldB rfl rfl Try.underlying33 rfl (by kernel_rfl) rfl) ?_
    refine wl_read rfl rfl rfl (yl_load rfl rfl Try.underlying3 rfl (CellAt.bk 1 rfl rfl)) ?_
    refine wl_read rfl rfl rfl (yl_fieldB rfl rfl Try.underlying33 rfl (by kernel_rfl) rfl) ?_
    refine wl_read rfl rfl rfl (yl_load rfl rfl Try.underlying3 rfl (CellAt.bk 1 rfl rfl)) ?_
    refine wl_read rfl rfl rfl (yl_fieldB rfl rfl Try.underlying33 rfl (by kernel_rfl) rfl) ?_
    refine wl_read rfl rfl rfl (yl_load rfl rfl Try.underlying3 rfl (CellAt.bk 1 rfl rfl)) ?_
    refine wl_call rfl rfl rfl (en_call rfl rfl) (has_is (acc l ++ [(⟨2000, 2 + md kind 2, md with_ 6, 1 + md number 999, 1 + md amount 100⟩ : Entry)]) (Entry.key (⟨2000, 2 + md kind 2, md with_ 6, 1 + md number 999, 1 + md amount 100⟩ : Entry)) true g _ _ (decide_eq_true hc2)) ?_
    rintro _ _ ⟨rfl, rfl⟩
    refine wl_read rfl rfl rfl (yl_move rfl rfl) ?_
    refine wl_read rfl rfl rfl (yl_move rfl rfl) ?_
    refine wl_read rfl rfl rfl (yl_loadBk 1 rfl rfl rfl Try.underlying33 rfl (by kernel_rfl)) ?_
    refine wl_call rfl rfl rfl (en_call rfl rfl) (post_err (acc l ++ [(⟨2000, 2 + md kind 2, md with_ 6, 1 + md number 999, 1 + md amount 100⟩ : Entry)]) (⟨2000, 2 + md kind 2, md with_ 6, 1 + md number 999, 1 + md amount 100⟩ : Entry) 10 g _ _ hgd2 (by rw [List.length_append, List.length_singleton]; omega) hp2 (by decide)) ?_
    rintro _ _ ⟨rfl, rfl⟩
    refine wl_read rfl rfl rfl ((yp_eql rfl rfl rfl).1 rfl) ?_
    refine wl_read rfl rfl rfl (yl_pickT rfl rfl rfl) ?_
    refine wl_read rfl rfl rfl (yl_move rfl rfl) ?_
    refine wl_read rfl rfl rfl (yl_move rfl rfl) ?_
    refine wl_call rfl rfl rfl (en_call rfl rfl) (settled_fn _ g _ _) ?_
    rintro _ _ ⟨rfl, rfl⟩
    refine wl_read rfl rfl rfl (yl_move rfl rfl) ?_
    refine wl_read rfl rfl rfl ((yp_eql rfl rfl rfl).1 rfl) ?_
    refine wl_read rfl rfl rfl (yl_pickT rfl rfl rfl) ?_
    refine wl_read rfl rfl rfl (yl_assign rfl rfl) ?_
    refine wl_nil ?_
    refine at_keep (Keep.cons 0 rfl (Keep.cons 1 rfl (Keep.cons 2 rfl (Keep.cons 3 rfl (Keep.cons 4 rfl (Keep.cons 10 rfl (Keep.cons 11 rfl (Keep.cons 12 rfl (Keep.cons 13 rfl (Keep.cons 14 rfl (Keep.cons 15 rfl (Keep.cons 53 rfl (Keep.cons 55 rfl Keep.nil))))))))))))) ?_
    refine at_retH (fun _ hw => hw.tail.tail.tail.tail) Try.func4 (res1 rfl rfl) ?_
    exact ⟨rfl, rfl⟩
theorem law5 (l : List Raw) (A : Option Addr) (c : Nat) (by_ : Int) (b : World) (H : List Asr) (hR : Rd H A l) (ha : ∀ i, i < l.length → I64 (at_ l i).amount) : Fn Try.prog 5 [.slice A l.length c, .int .i64 by_] b H (fun v H' => v = .bool true ∧ H = H') := by
  have hgd := acc_good l
  have hln := acc_length l
  have hmd := md_bd by_ 900 (by decide)
  refine fn_of_at (by kernel_rfl) Try.func5 rfl Try.ntmps5 rfl rfl ?_
  refine at_seq ?_
  refine at_region ?_
  refine wl_read rfl rfl rfl (yl_assign rfl rfl) ?_
  refine wl_nil ?_
  refine at_keep (Keep.cons 0 rfl (Keep.cons 1 rfl (Keep.cons 4 rfl Keep.nil))) ?_
  refine at_seq ?_
  refine at_region ?_
  refine wl_call rfl rfl rfl (en_call rfl rfl) (new_fn _ _) ?_
  rintro _ _ ⟨g, rfl, rfl⟩
  refine wl_read rfl rfl rfl (yl_assign rfl rfl) ?_
  refine wl_nil ?_
  refine at_keep (Keep.cons 0 rfl (Keep.cons 1 rfl (Keep.cons 4 rfl (Keep.cons 5 rfl Keep.nil)))) ?_
  refine at_seq ?_
  refine at_region ?_
  refine wl_read rfl rfl rfl (yl_move rfl rfl) ?_
  refine wl_read rfl rfl rfl (yl_move rfl rfl) ?_
  refine wl_call rfl rfl rfl (en_call rfl rfl) (entraw_fn l A c _ _ (hR.cons _) ha) ?_
  rintro _ _ ⟨A1, c1, rfl, rfl⟩
  refine wl_heap (fun _ hw => hw.front1) ?_
  refine wl_call rfl rfl rfl (en_call rfl rfl) (play_acc l g _ _ _ _ (Rd.of_sl 0 rfl)) ?_
  rintro _ _ ⟨A2, c2, rfl, rfl⟩
  refine wl_nil ?_
  refine at_keep (Keep.cons 0 rfl (Keep.cons 1 rfl (Keep.cons 4 rfl (Keep.cons 5 rfl Keep.nil)))) ?_
  refine at_seq ?_
  refine at_region ?_
  refine wl_read rfl rfl rfl (yl_move rfl rfl) ?_
  refine wl_heap (fun _ hw => hw.front1) ?_
  refine wl_call rfl rfl rfl (en_call rfl rfl) (entries_fn _ g _ _ (by omega)) ?_
  rintro _ _ ⟨An, cn, rfl, rfl⟩
  refine wl_read rfl rfl rfl (yl_assign rfl rfl) ?_
  refine wl_nil ?_
  refine at_keep (Keep.cons 0 rfl (Keep.cons 1 rfl (Keep.cons 4 rfl (Keep.cons 5 rfl (Keep.cons 6 rfl Keep.nil))))) ?_
  refine at_seq ?_
  refine at_seq ?_
  refine at_region ?_
  refine wl_call rfl rfl rfl (en_call rfl rfl) (awake_fn _ _) ?_
  rintro _ _ ⟨rfl, rfl⟩
  refine wl_read rfl rfl rfl (yl_notT rfl rfl) ?_
  refine wl_nil ?_
  refine at_keep (Keep.cons 0 rfl (Keep.cons 1 rfl (Keep.cons 4 rfl (Keep.cons 5 rfl (Keep.cons 6 rfl (Keep.cons 18 rfl Keep.nil)))))) ?_
  refine at_false rfl ?_
  refine at_skip ?_
  refine at_seq ?_
  refine at_seq ?_
  refine at_heap (fun _ hw => hw.front2.tail) ?_
  refine at_heap (fun _ hw => hw.front2.tail) ?_
  refine at_heap (fun _ hw => hw.front1.front1) ?_
  refine at_region ?_
  refine wl_read rfl rfl rfl (yl_assign rfl rfl) ?_
  refine wl_nil ?_
  refine at_keep (Keep.cons 0 rfl (Keep.cons 1 rfl (Keep.cons 4 rfl (Keep.cons 5 rfl (Keep.cons 6 rfl (Keep.cons 7 rfl (Keep.cons 18 rfl Keep.nil))))))) ?_
  refine at_block ?_
  refine at_keep (L' := (fun (k : Nat) => [(1, .int .i64 by_), (5, .pointer (some ⟨g, 0, none⟩)), (6, .slice An (acc l).length cn), (7, .int .i64 (k : Int))]) 1) (Keep.consEq 1 rfl rfl (Keep.consEq 5 rfl rfl (Keep.consEq 6 rfl rfl (Keep.consEq 7 rfl rfl Keep.nil)))) ?_
  refine at_loop1 (fun (k : Nat) => 1 ≤ k) (fun (k : Nat) => [(1, .int .i64 by_), (5, .pointer (some ⟨g, 0, none⟩)), (6, .slice An (acc l).length cn), (7, .int .i64 (k : Int))]) (fun (k : Nat) => Sl An cn 33 (acc l) :: Acc g (acc l) :: H) (fun (k : Nat) => (acc l).length - k) 1 (by omega) ?_
  intro k hI ih
  refine at_seq ?_
  refine at_seq ?_
  refine at_region ?_
  refine wl_read rfl rfl rfl (yl_move rfl rfl) ?_
  refine wl_read rfl rfl rfl (yl_move rfl rfl) ?_
  refine wl_read rfl rfl rfl (yl_len rfl rfl Try.underlying27) ?_
  refine wl_split rfl rfl rfl (yp_lss rfl rfl rfl) ?_ ?_
  · intro h7_3
    refine wl_nil ?_
    refine at_keep (Keep.cons 1 rfl (Keep.cons 5 rfl (Keep.cons 6 rfl (Keep.cons 7 rfl (Keep.cons 22 rfl Keep.nil))))) ?_
    refine at_true rfl ?_
    refine at_skip ?_
    refine at_seq ?_
    refine at_block ?_
    refine at_seq ?_
    have hk1 : k < (acc l).length := by omega
    have hk0 : k - 1 < (acc l).length := by omega
    have hso := hgd.sorted (k - 1) k (by omega) hk1
    refine at_draw0 (.fl 0 (.fl 1 (.fl 2 (.fl 3 (.fl 4 (.fl 5 (.fl 6 (.fl 7 (.fl 8 (.fl 9 (.fl 10 (.fl 11 .nil)))))))))))) (by kernel_rfl) (by kernel_rfl) ?_
    refine wt_read rfl rfl rfl rfl (yl_move rfl rfl) ?_
    refine wt_read rfl rfl rfl rfl (yl_move rfl rfl) ?_
    refine wt_read rfl rfl rfl rfl (yl_sub rfl rfl rfl (w64 (by omega) (by omega))) ?_
    refine wt_read rfl rfl rfl rfl (yl_index rfl rfl rfl (Rd.of_sl 0 rfl) (at_some hk0) (by omega) rfl Try.underlying27 (by kernel_rfl) rfl) ?_
    refine wt_read rfl rfl rfl rfl (yl_field rfl rfl Try.underlying33 rfl (by kernel_rfl) rfl) ?_
    refine wt_read rfl rfl rfl rfl (yl_load rfl rfl Try.underlying3 rfl ((Rd.of_sl 0 rfl).cell2 (at_some hk0) rfl)) ?_
    refine wt_read rfl rfl rfl rfl (yl_move rfl rfl) ?_
    refine wt_read rfl rfl rfl rfl (yl_move rfl rfl) ?_
    refine wt_read rfl rfl rfl rfl (yl_index rfl rfl rfl (Rd.of_sl 0 rfl) (at_some hk1) rfl rfl Try.underlying27 (by kernel_rfl) rfl) ?_
    refine wt_read rfl rfl rfl rfl (yl_field rfl rfl Try.underlying33 rfl (by kernel_rfl) rfl) ?_
    refine wt_read rfl rfl rfl rfl (yl_load rfl rfl Try.underlying3 rfl ((Rd.of_sl 0 rfl).cell2 (at_some hk1) rfl)) ?_
    refine wt_read rfl rfl rfl rfl ((yp_gtr rfl rfl rfl).2 (by omega)) ?_
    refine wt_nil ?_
    refine at_keep (Keep.cons 1 rfl (Keep.cons 5 rfl (Keep.cons 6 rfl (Keep.cons 7 rfl (Keep.cons 22 rfl (Keep.cons 36 rfl Keep.nil)))))) ?_
    refine at_false rfl ?_
    refine at_skip ?_
    refine at_inBlock ?_
    refine at_region ?_
    refine wl_read rfl rfl rfl (yl_move rfl rfl) ?_
    refine wl_read rfl rfl rfl (yl_add rfl rfl rfl (w64 (by omega) (by omega))) ?_
    refine wl_read rfl rfl rfl (yl_assign rfl rfl) ?_
    refine wl_nil ?_
    refine at_keep (Keep.cons 1 rfl (Keep.cons 5 rfl (Keep.cons 6 rfl (Keep.cons 7 rfl (Keep.cons 22 rfl (Keep.cons 36 rfl Keep.nil)))))) ?_
    exact at_keep (L' := (fun (k : Nat) => [(1, .int .i64 by_), (5, .pointer (some ⟨g, 0, none⟩)), (6, .slice An (acc l).length cn), (7, .int .i64 (k : Int))]) (k + 1)) (Keep.consEq 1 rfl rfl (Keep.consEq 5 rfl rfl (Keep.consEq 6 rfl rfl (Keep.consEq 7 rfl rfl Keep.nil)))) (ih (k + 1) (by omega) (by omega))
  · intro h7_3
    refine wl_nil ?_
    refine at_keep (Keep.cons 1 rfl (Keep.cons 5 rfl (Keep.cons 6 rfl (Keep.cons 7 rfl (Keep.cons 22 rfl Keep.nil))))) ?_
    refine at_false rfl ?_
    refine at_exit rfl ?_
    refine at_seq ?_
    refine at_seq ?_
    refine at_region ?_
    refine wl_read rfl rfl rfl (yl_move rfl rfl) ?_
    refine wl_read rfl rfl rfl (yl_len rfl rfl Try.underlying27) ?_
    refine wl_split rfl rfl rfl (yp_eql rfl rfl rfl) ?_ ?_
    · intro h11_2
      refine wl_nil ?_
      refine at_keep (Keep.cons 1 rfl (Keep.cons 5 rfl (Keep.cons 6 rfl (Keep.cons 7 rfl (Keep.cons 22 rfl (Keep.cons 39 rfl Keep.nil)))))) ?_
      refine at_true rfl ?_
      refine at_seq ?_
      refine at_region ?_
      refine wl_read rfl rfl rfl (yl_assign rfl rfl) ?_
      refine wl_nil ?_
      refine at_keep (Keep.cons 1 rfl (Keep.cons 4 rfl (Keep.cons 5 rfl (Keep.cons 6 rfl (Keep.cons 7 rfl (Keep.cons 22 rfl (Keep.cons 39 rfl Keep.nil))))))) ?_
      refine at_retH (fun _ hw => hw.tail.tail) Try.func5 (res1 rfl rfl) ?_
      exact ⟨rfl, rfl⟩
    · intro h11_2
      refine wl_nil ?_
      refine at_keep (Keep.cons 1 rfl (Keep.cons 5 rfl (Keep.cons 6 rfl (Keep.cons 7 rfl (Keep.cons 22 rfl (Keep.cons 39 rfl Keep.nil)))))) ?_
      refine at_false rfl ?_
      refine at_skip ?_
      refine at_seq ?_
      have hk9 : (acc l).length - 1 < (acc l).length := by omega
      have hmo := acc_month l _ hk9
      have hv : okE (⟨(at_ (acc l) ((acc l).length - 1)).month - 1 - md by_ 900, 1, 0, 0, 1⟩ : Entry) := ⟨⟨by show 0 ≤ (at_ (acc l) ((acc l).length - 1)).month - 1 - md by_ 900; omega, by show (at_ (acc l) ((acc l).length - 1)).month - 1 - md by_ 900 ≤ 2399; omega, by show (1 : Int) ≤ 1; decide, by show (1 : Int) ≤ 1000000000000; decide⟩, .inl ⟨rfl, rfl, rfl⟩⟩
      have hold : old (acc l) (Entry.month (⟨(at_ (acc l) ((acc l).length - 1)).month - 1 - md by_ 900, 1, 0, 0, 1⟩ : Entry)) := old_iff.2 ⟨(acc l).length - 1, hk9, by show (at_ (acc l) ((acc l).length - 1)).month - 1 - md by_ 900 < (at_ (acc l) ((acc l).length - 1)).month; omega⟩
      refine at_region ?_
      refine wl_read rfl rfl rfl (yl_move rfl rfl) ?_
      refine wl_read rfl rfl rfl (yl_move rfl rfl) ?_
      refine wl_read rfl rfl rfl (yl_len rfl rfl Try.underlying27) ?_
      refine wl_read rfl rfl rfl (yl_sub rfl rfl rfl (w64 (by omega) (by omega))) ?_
      refine wl_read rfl rfl rfl (yl_index rfl rfl rfl (Rd.of_sl 0 rfl) (at_some hk9) (by omega) rfl Try.underlying27 (by kernel_rfl) rfl) ?_
      refine wl_read rfl rfl rfl (yl_field rfl rfl Try.underlying33 rfl (by kernel_rfl) rfl) ?_
      refine wl_read rfl rfl rfl (yl_load rfl rfl Try.underlying3 rfl ((Rd.of_sl 0 rfl).cell2 (at_some hk9) rfl)) ?_
      refine wl_read rfl rfl rfl (yl_assign rfl rfl) ?_
      refine wl_nil ?_
      refine at_keep (Keep.cons 1 rfl (Keep.cons 5 rfl (Keep.cons 6 rfl (Keep.cons 7 rfl (Keep.cons 8 rfl (Keep.cons 22 rfl (Keep.cons 39 rfl Keep.nil))))))) ?_
      refine at_seq ?_
      refine at_region ?_
      refine wl_read rfl rfl rfl (yl_move rfl rfl) ?_
      refine wl_read rfl rfl rfl (yl_move rfl rfl) ?_
      refine wl_read rfl rfl rfl (yl_sub rfl rfl rfl (w64 (by omega) (by omega))) ?_
      refine wl_read rfl rfl rfl (yl_move rfl rfl) ?_
      refine wl_call rfl rfl rfl (en_call rfl rfl) (mod_fn _ _ _ _ (by decide) (by decide)) ?_
      rintro _ _ ⟨rfl, rfl⟩
      refine wl_read rfl rfl rfl (yl_sub rfl rfl rfl (w64 (by omega) (by omega))) ?_
      refine wl_read rfl rfl rfl (yl_build (cs := Enc.cells (⟨(at_ (acc l) ((acc l).length - 1)).month - 1 - md by_ 900, 1, 0, 0, 1⟩ : Entry)) rfl rfl (fun _ => by kernel_rfl)) ?_
      refine wl_heap (fun _ hw => hw.front1) ?_
      refine wl_call rfl rfl rfl (en_call rfl rfl) (post_err (acc l) (⟨(at_ (acc l) ((acc l).length - 1)).month - 1 - md by_ 900, 1, 0, 0, 1⟩ : Entry) 13 g _ _ hgd (by omega) (perr13 hv hold) (by decide)) ?_
      rintro _ _ ⟨rfl, rfl⟩
      refine wl_read rfl rfl rfl (yl_assign rfl rfl) ?_
      refine wl_nil ?_
      refine at_keep (Keep.cons 1 rfl (Keep.cons 5 rfl (Keep.cons 6 rfl (Keep.cons 7 rfl (Keep.cons 8 rfl (Keep.cons 9 rfl (Keep.cons 22 rfl (Keep.cons 39 rfl Keep.nil)))))))) ?_
      refine at_seq ?_
      refine at_region ?_
      refine wl_read rfl rfl rfl (yl_move rfl rfl) ?_
      refine wl_read rfl rfl rfl ((yp_eql rfl rfl rfl).1 rfl) ?_
      refine wl_read rfl rfl rfl (yl_move rfl rfl) ?_
      refine wl_read rfl rfl rfl (yl_move rfl rfl) ?_
      refine wl_call rfl rfl rfl (en_call rfl rfl) (entries_fn _ g _ _ (by omega)) ?_
      rintro _ _ ⟨Ap, cp, rfl, rfl⟩
      refine wl_read rfl rfl rfl (yl_len rfl rfl Try.underlying27) ?_
      refine wl_read rfl rfl rfl (yl_move rfl rfl) ?_
      refine wl_read rfl rfl rfl (yl_len rfl rfl Try.underlying27) ?_
      refine wl_read rfl rfl rfl ((yp_eql rfl rfl rfl).1 rfl) ?_
      refine wl_read rfl rfl rfl (yl_pickT rfl rfl rfl) ?_
      refine wl_read rfl rfl rfl (yl_assign rfl rfl) ?_
      refine wl_nil ?_
      refine at_keep (Keep.cons 1 rfl (Keep.cons 4 rfl (Keep.cons 5 rfl (Keep.cons 6 rfl (Keep.cons 7 rfl (Keep.cons 8 rfl (Keep.cons 9 rfl (Keep.cons 22 rfl (Keep.cons 39 rfl Keep.nil))))))))) ?_
      refine at_retH (fun _ hw => hw.tail.tail.tail) Try.func5 (res1 rfl rfl) ?_
      exact ⟨rfl, rfl⟩
theorem law6 (l : List Raw) (A : Option Addr) (c : Nat) (by_ : Int) (b : World) (H : List Asr) (hR : Rd H A l) (ha : ∀ i, i < l.length → I64 (at_ l i).amount) : Fn Try.prog 6 [.slice A l.length c, .int .i64 by_] b H (fun v H' => v = .bool true ∧ H = H') := by
  have hgd := acc_good l
  have hln := acc_length l
  have hmd := md_bd by_ 100000 (by decide)
  refine fn_of_at (by kernel_rfl) Try.func6 rfl Try.ntmps6 rfl rfl ?_
  refine at_seq ?_
  refine at_region ?_
  refine wl_read rfl rfl rfl (yl_assign rfl rfl) ?_
  refine wl_nil ?_
  refine at_keep (Keep.cons 0 rfl (Keep.cons 1 rfl (Keep.cons 4 rfl Keep.nil))) ?_
  refine at_seq ?_
  refine at_region ?_
  refine wl_call rfl rfl rfl (en_call rfl rfl) (new_fn _ _) ?_
  rintro _ _ ⟨g, rfl, rfl⟩
  refine wl_read rfl rfl rfl (yl_assign rfl rfl) ?_
  refine wl_nil ?_
  refine at_keep (Keep.cons 0 rfl (Keep.cons 1 rfl (Keep.cons 4 rfl (Keep.cons 5 rfl Keep.nil)))) ?_
  refine at_seq ?_
  refine at_region ?_
  refine wl_read rfl rfl rfl (yl_move rfl rfl) ?_
  refine wl_read rfl rfl rfl (yl_move rfl rfl) ?_
  refine wl_call rfl rfl rfl (en_call rfl rfl) (entraw_fn l A c _ _ (hR.cons _) ha) ?_
  rintro _ _ ⟨A1, c1, rfl, rfl⟩
  refine wl_heap (fun _ hw => hw.front1) ?_
  refine wl_call rfl rfl rfl (en_call rfl rfl) (play_acc l g _ _ _ _ (Rd.of_sl 0 rfl)) ?_
  rintro _ _ ⟨A2, c2, rfl, rfl⟩
  refine wl_nil ?_
  refine at_keep (Keep.cons 0 rfl (Keep.cons 1 rfl (Keep.cons 4 rfl (Keep.cons 5 rfl Keep.nil)))) ?_
  refine at_seq ?_
  refine at_region ?_
  refine wl_read rfl rfl rfl (yl_move rfl rfl) ?_
  refine wl_call rfl rfl rfl (en_call rfl rfl) (mod_fn _ _ _ _ (by decide) (by decide)) ?_
  rintro _ _ ⟨rfl, rfl⟩
  refine wl_read rfl rfl rfl (yl_add rfl rfl rfl (w64 (by omega) (by omega))) ?_
  refine wl_read rfl rfl rfl (yl_assign rfl rfl) ?_
  refine wl_nil ?_
  refine at_keep (Keep.cons 0 rfl (Keep.cons 1 rfl (Keep.cons 4 rfl (Keep.cons 5 rfl (Keep.cons 6 rfl Keep.nil))))) ?_
  refine at_seq ?_
  refine at_region ?_
  refine wl_read rfl rfl rfl (yl_move rfl rfl) ?_
  refine wl_read rfl rfl rfl (yl_move rfl rfl) ?_
  refine wl_read rfl rfl rfl (yl_neg rfl rfl (w64 (by omega) (by omega))) ?_
  refine wl_heap (fun _ hw => hw.front1) ?_
  refine wl_call rfl rfl rfl (en_call rfl rfl) (balance_bad _ g _ _ _ (by omega)) ?_
  rintro _ _ ⟨rfl, rfl⟩
  refine wl_read rfl rfl rfl (yl_move rfl rfl) ?_
  refine wl_read rfl rfl rfl (yl_extract rfl rfl rfl) ?_
  refine wl_read rfl rfl rfl (yl_extract rfl rfl rfl) ?_
  refine wl_read rfl rfl rfl (yl_assign rfl rfl) ?_
  refine wl_read rfl rfl rfl (yl_assign rfl rfl) ?_
  refine wl_nil ?_
  refine at_keep (Keep.cons 0 rfl (Keep.cons 1 rfl (Keep.cons 4 rfl (Keep.cons 5 rfl (Keep.cons 6 rfl (Keep.cons 7 rfl (Keep.cons 8 rfl Keep.nil))))))) ?_
  refine at_seq ?_
  refine at_region ?_
  refine wl_read rfl rfl rfl (yl_move rfl rfl) ?_
  refine wl_read rfl rfl rfl (yl_move rfl rfl) ?_
  refine wl_read rfl rfl rfl (yl_add rfl rfl rfl (w64 (by omega) (by omega))) ?_
  refine wl_call rfl rfl rfl (en_call rfl rfl) (balance_bad _ g _ _ _ (by omega)) ?_
  rintro _ _ ⟨rfl, rfl⟩
  refine wl_read rfl rfl rfl (yl_move rfl rfl) ?_
  refine wl_read rfl rfl rfl (yl_extract rfl rfl rfl) ?_
  refine wl_read rfl rfl rfl (yl_extract rfl rfl rfl) ?_
  refine wl_read rfl rfl rfl (yl_assign rfl rfl) ?_
  refine wl_read rfl rfl rfl (yl_assign rfl rfl) ?_
  refine wl_nil ?_
  refine at_keep (Keep.cons 0 rfl (Keep.cons 1 rfl (Keep.cons 4 rfl (Keep.cons 5 rfl (Keep.cons 6 rfl (Keep.cons 7 rfl (Keep.cons 8 rfl (Keep.cons 9 rfl (Keep.cons 10 rfl Keep.nil))))))))) ?_
  refine at_seq ?_
  refine at_region ?_
  refine wl_call rfl rfl rfl (en_call rfl rfl) (awake_fn _ _) ?_
  rintro _ _ ⟨rfl, rfl⟩
  refine wl_read rfl rfl rfl (yl_move rfl rfl) ?_
  refine wl_read rfl rfl rfl (yl_move rfl rfl) ?_
  refine wl_read rfl rfl rfl ((yp_eql rfl rfl rfl).1 rfl) ?_
  refine wl_read rfl rfl rfl (yl_pickT rfl rfl rfl) ?_
  refine wl_read rfl rfl rfl (yl_move rfl rfl) ?_
  refine wl_read rfl rfl rfl (yl_move rfl rfl) ?_
  refine wl_read rfl rfl rfl ((yp_eql rfl rfl rfl).1 rfl) ?_
  refine wl_read rfl rfl rfl (yl_pickT rfl rfl rfl) ?_
  refine wl_read rfl rfl rfl (yl_move rfl rfl) ?_
  refine wl_read rfl rfl rfl (yl_move rfl rfl) ?_
  refine wl_read rfl rfl rfl ((yp_eql rfl rfl rfl).1 rfl) ?_
  refine wl_read rfl rfl rfl (yl_pickT rfl rfl rfl) ?_
  refine wl_read rfl rfl rfl (yl_move rfl rfl) ?_
  refine wl_read rfl rfl rfl (yl_move rfl rfl) ?_
  refine wl_read rfl rfl rfl ((yp_eql rfl rfl rfl).1 rfl) ?_
  refine wl_read rfl rfl rfl (yl_pickT rfl rfl rfl) ?_
  refine wl_read rfl rfl rfl (yl_assign rfl rfl) ?_
  refine wl_nil ?_
  refine at_keep (Keep.cons 0 rfl (Keep.cons 1 rfl (Keep.cons 4 rfl (Keep.cons 5 rfl (Keep.cons 6 rfl (Keep.cons 7 rfl (Keep.cons 8 rfl (Keep.cons 9 rfl (Keep.cons 10 rfl Keep.nil))))))))) ?_
  refine at_retH (fun _ hw => hw.tail.tail.tail) Try.func6 (res1 rfl rfl) ?_
  exact ⟨rfl, rfl⟩
end Go.Proofs.Ytplaoddmgfcbcaa

/- Walks of copies, and of what an account tells. -/
import Derived.Test.YtplaoddmgfcbcaaA
namespace Go.Proofs.Ytplaoddmgfcbcaa
open Go

theorem info33 : (Try.prog.info? 33).map (fun i => (i.zero, i.size, i.bytes)) = some (some (.agg #[.int .i64 0, .int .i64 0, .int .i64 0, .int .i64 0, .int .i64 0]), Enc.size Entry, 40) := by kernel_rfl
theorem info35 : (Try.prog.info? 35).map (fun i => (i.zero, i.size, i.bytes)) = some (some (.int .i64 0), Enc.size Int, 8) := by kernel_rfl

theorem clone_fn (xs : List Entry) (A : Option Addr) (c : Nat) (b : World) (H : List Asr) (hR : Rd H A xs) (hl : xs.length ≤ 1000) :
    Fn Try.prog 28 [.slice A xs.length c] b H (fun v H' => ∃ A' c', v = .slice A' xs.length c' ∧ H' = Sl A' c' 33 xs :: H) := by
  refine Fn.know (by kernel_rfl) (p := A = none → xs = []) (fun w hw hA => Decidable.by_contra fun hx => by obtain ⟨ad, e, _⟩ := hR b w hw hx; rw [hA] at e; cases e) (fun hA => ?_)
  cases A with
  | none =>
    obtain rfl := hA rfl
    refine fn_of_at (by kernel_rfl) Try.func28 rfl Try.ntmps28 rfl rfl ?_
    refine at_seq ?_
    refine at_region ?_
    refine wl_read rfl rfl rfl (yl_assign rfl rfl) ?_
    refine wl_nil ?_
    refine at_keep (Keep.cons 0 rfl (Keep.cons 2 rfl Keep.nil)) ?_
    refine at_seq ?_
    refine at_seq ?_
    refine at_region ?_
    refine wl_read rfl rfl rfl (yl_move rfl rfl) ?_
    refine wl_read rfl rfl rfl (yl_eqSlice rfl rfl rfl Try.underlying27 rfl) ?_
    refine wl_nil ?_
    refine at_keep (Keep.cons 0 rfl (Keep.cons 2 rfl (Keep.cons 4 rfl Keep.nil))) ?_
    refine at_true rfl ?_
    refine at_seq ?_
    refine at_region ?_
    refine wl_read rfl rfl rfl (yl_assign rfl rfl) ?_
    refine wl_nil ?_
    refine at_keep (Keep.cons 0 rfl (Keep.cons 2 rfl (Keep.cons 4 rfl Keep.nil))) ?_
    refine at_retH (fun _ hw => hw.nilSl (α := Entry) 33) Try.func28 (res1 rfl rfl) ?_
    exact ⟨none, 0, rfl, rfl⟩
  | some ad =>
    refine fn_of_at (by kernel_rfl) Try.func28 rfl Try.ntmps28 rfl rfl ?_
    refine at_seq ?_
    refine at_region ?_
    refine wl_read rfl rfl rfl (yl_assign rfl rfl) ?_
    refine wl_nil ?_
    refine at_keep (Keep.cons 0 rfl (Keep.cons 2 rfl Keep.nil)) ?_
    refine at_seq ?_
    refine at_seq ?_
    refine at_region ?_
    refine wl_read rfl rfl rfl (yl_move rfl rfl) ?_
    refine wl_read rfl rfl rfl (yl_eqSlice rfl rfl rfl Try.underlying27 rfl) ?_
    refine wl_nil ?_
    refine at_keep (Keep.cons 0 rfl (Keep.cons 2 rfl (Keep.cons 4 rfl Keep.nil))) ?_
    refine at_false rfl ?_
    refine at_skip ?_
    refine at_seq ?_
    refine at_region ?_
    refine wl_eff rfl rfl rfl (ef_buildSlice (e := 33) ([] : List Entry) rfl rfl (fun _ => by kernel_rfl) rfl rfl) ?_
    rintro _ _ ⟨T3_0, rfl, rfl⟩
    refine wl_read rfl rfl rfl (yl_move rfl rfl) ?_
    refine wl_eff rfl rfl rfl (ef_append (ys := xs) 0 rfl rfl rfl rfl (hR.cons _) Try.underlying27 info33 rfl rfl (by simp only [List.length_nil, maxLen]; omega) (by simp only [List.length_nil]; omega)) ?_
    rintro _ _ ⟨A2, c2, rfl, hH⟩
    simp only [List.set_cons_succ, List.set_cons_zero] at hH; subst hH
    refine wl_read rfl rfl rfl (yl_assign rfl rfl) ?_
    refine wl_nil ?_
    refine at_keep (Keep.cons 0 rfl (Keep.cons 2 rfl (Keep.cons 4 rfl Keep.nil))) ?_
    refine at_ret Try.func28 (res1 rfl rfl) ?_
    exact ⟨A2, c2, rfl, rfl⟩
theorem new_fn (b : World) (H : List Asr) : Fn Try.prog 12 [] b H (fun v H' => ∃ g, v = .pointer (some ⟨g, 0, none⟩) ∧ H' = Acc g [] :: H) := by
  refine fn_of_at (by kernel_rfl) Try.func12 rfl Try.ntmps12 rfl rfl ?_
  refine at_seq ?_
  refine at_region ?_
  refine wl_read rfl rfl rfl (yl_assign rfl rfl) ?_
  refine wl_nil ?_
  refine at_keep (Keep.cons 0 rfl Keep.nil) ?_
  refine at_seq ?_
  refine at_region ?_
  refine wl_eff rfl rfl rfl (ef_makeMap kv rfl) ?_
  rintro _ _ ⟨m1_0, rfl, rfl⟩
  refine wl_read rfl rfl rfl (yl_build (cs := [.slice none 0 0, .map (some m1_0), .int .i64 0]) rfl rfl (fun _ => by kernel_rfl)) ?_
  refine wl_eff rfl rfl rfl (ef_box rfl rfl rfl) ?_
  rintro _ _ ⟨g1_2, rfl, rfl⟩
  refine wl_read rfl rfl rfl (yl_assign rfl rfl) ?_
  refine wl_nil ?_
  refine at_keep (Keep.cons 0 rfl Keep.nil) ?_
  refine at_retH (fun _ hw => Acc.closes (es := []) (hw.nilSl (α := Entry) 33).front1 rfl (funext fun _ => rfl)) Try.func12 (res1 rfl rfl) ?_
  exact ⟨g1_2, rfl, rfl⟩
theorem settled_fn (es : List Entry) (g : Nat) (b : World) (H : List Asr) : Fn Try.prog 16 [.pointer (some ⟨g, 0, none⟩)] b (Acc g es :: H) (fun v H' => v = .int .i64 (stl es) ∧ Acc g es :: H = H') := by
  refine Acc.fn fun A c m => ?_
  refine fn_of_at (by kernel_rfl) Try.func16 rfl Try.ntmps16 rfl rfl ?_
  refine at_seq ?_
  refine at_region ?_
  refine wl_read rfl rfl rfl (yl_assign rfl rfl) ?_
  refine wl_nil ?_
  refine at_keep (Keep.cons 0 rfl (Keep.cons 2 rfl Keep.nil)) ?_
  refine at_seq ?_
  refine at_seq ?_
  refine at_region ?_
  refine wl_read rfl rfl rfl (yl_move rfl rfl) ?_
  refine wl_read rfl rfl rfl (yl_eqPtr rfl rfl rfl (by kernel_rfl) rfl) ?_
  refine wl_nil ?_
  refine at_keep (Keep.cons 0 rfl (Keep.cons 2 rfl (Keep.cons 4 rfl Keep.nil))) ?_
  refine at_false rfl ?_
  refine at_skip ?_
  refine at_seq ?_
  refine at_region ?_
  refine wl_read rfl rfl rfl (yl_move rfl rfl) ?_
  refine wl_read rfl rfl rfl (yl_nilCheck rfl rfl) ?_
  refine wl_read rfl rfl rfl (yl_fieldB rfl rfl Try.underlying54 rfl (by kernel_rfl) rfl) ?_
  refine wl_read rfl rfl rfl (yl_load rfl rfl Try.underlying3 rfl (CellAt.bk 0 rfl rfl)) ?_
  refine wl_read rfl rfl rfl (yl_assign rfl rfl) ?_
  refine wl_nil ?_
  refine at_keep (Keep.cons 0 rfl (Keep.cons 2 rfl (Keep.cons 4 rfl Keep.nil))) ?_
  refine at_retH (fun _ hw => Acc.closes hw rfl rfl) Try.func16 (res1 rfl rfl) ?_
  exact ⟨rfl, rfl⟩
theorem settled_nil (b : World) (H : List Asr) : Fn Try.prog 16 [.pointer none] b H (fun v H' => v = .int .i64 0 ∧ H = H') := by
  refine fn_of_at (by kernel_rfl) Try.func16 rfl Try.ntmps16 rfl rfl ?_
  refine at_seq ?_
  refine at_region ?_
  refine wl_read rfl rfl rfl (yl_assign rfl rfl) ?_
  refine wl_nil ?_
  refine at_keep (Keep.cons 0 rfl (Keep.cons 2 rfl Keep.nil)) ?_
  refine at_seq ?_
  refine at_seq ?_
  refine at_region ?_
  refine wl_read rfl rfl rfl (yl_move rfl rfl) ?_
  refine wl_read rfl rfl rfl (yl_eqPtr rfl rfl rfl (by kernel_rfl) rfl) ?_
  refine wl_nil ?_
  refine at_keep (Keep.cons 0 rfl (Keep.cons 2 rfl (Keep.cons 4 rfl Keep.nil))) ?_
  refine at_true rfl ?_
  refine at_seq ?_
  refine at_region ?_
  refine wl_read rfl rfl rfl (yl_assign rfl rfl) ?_
  refine wl_nil ?_
  refine at_keep (Keep.cons 0 rfl (Keep.cons 2 rfl (Keep.cons 4 rfl Keep.nil))) ?_
  refine at_ret Try.func16 (res1 rfl rfl) ?_
  exact ⟨rfl, rfl⟩
theorem entries_fn (es : List Entry) (g : Nat) (b : World) (H : List Asr) (hl : es.length ≤ 1000) : Fn Try.prog 15 [.pointer (some ⟨g, 0, none⟩)] b (Acc g es :: H) (fun v H' => ∃ A c, v = .slice A es.length c ∧ H' = Sl A c 33 es :: Acc g es :: H) := by
  refine Acc.fn fun A c m => ?_
  refine fn_of_at (by kernel_rfl) Try.func15 rfl Try.ntmps15 rfl rfl ?_
  refine at_seq ?_
  refine at_region ?_
  refine wl_read rfl rfl rfl (yl_assign rfl rfl) ?_
  refine wl_nil ?_
  refine at_keep (Keep.cons 0 rfl (Keep.cons 2 rfl Keep.nil)) ?_
  refine at_seq ?_
  refine at_seq ?_
  refine at_region ?_
  refine wl_read rfl rfl rfl (yl_move rfl rfl) ?_
  refine wl_read rfl rfl rfl (yl_eqPtr rfl rfl rfl (by kernel_rfl) rfl) ?_
  refine wl_nil ?_
  refine at_keep (Keep.cons 0 rfl (Keep.cons 2 rfl (Keep.cons 4 rfl Keep.nil))) ?_
  refine at_false rfl ?_
  refine at_skip ?_
  refine at_seq ?_
  refine at_region ?_
  refine wl_read rfl rfl rfl (yl_move rfl rfl) ?_
  refine wl_read rfl rfl rfl (yl_nilCheck rfl rfl) ?_
  refine wl_read rfl rfl rfl (yl_fieldB rfl rfl Try.underlying54 rfl (by kernel_rfl) rfl) ?_
  refine wl_read rfl rfl rfl (yl_load rfl rfl Try.underlying27 rfl (CellAt.bk 0 rfl rfl)) ?_
  refine wl_call rfl rfl rfl (en_call rfl rfl) (clone_fn es A c _ _ (Rd.of_sl 1 rfl) hl) ?_
  rintro _ _ ⟨A1, c1, rfl, rfl⟩
  refine wl_read rfl rfl rfl (yl_assign rfl rfl) ?_
  refine wl_nil ?_
  refine at_keep (Keep.cons 0 rfl (Keep.cons 2 rfl (Keep.cons 4 rfl Keep.nil))) ?_
  refine at_retH (fun _ hw => (Acc.closes hw.down3 rfl rfl).front1) Try.func15 (res1 rfl rfl) ?_
  exact ⟨A1, c1, rfl, rfl⟩
theorem entries_nil (b : World) (H : List Asr) : Fn Try.prog 15 [.pointer none] b H (fun v H' => v = .slice none 0 0 ∧ H = H') := by
  refine fn_of_at (by kernel_rfl) Try.func15 rfl Try.ntmps15 rfl rfl ?_
  refine at_seq ?_
  refine at_region ?_
  refine wl_read rfl rfl rfl (yl_assign rfl rfl) ?_
  refine wl_nil ?_
  refine at_keep (Keep.cons 0 rfl (Keep.cons 2 rfl Keep.nil)) ?_
  refine at_seq ?_
  refine at_seq ?_
  refine at_region ?_
  refine wl_read rfl rfl rfl (yl_move rfl rfl) ?_
  refine wl_read rfl rfl rfl (yl_eqPtr rfl rfl rfl (by kernel_rfl) rfl) ?_
  refine wl_nil ?_
  refine at_keep (Keep.cons 0 rfl (Keep.cons 2 rfl (Keep.cons 4 rfl Keep.nil))) ?_
  refine at_true rfl ?_
  refine at_seq ?_
  refine at_region ?_
  refine wl_read rfl rfl rfl (yl_assign rfl rfl) ?_
  refine wl_nil ?_
  refine at_keep (Keep.cons 0 rfl (Keep.cons 2 rfl (Keep.cons 4 rfl Keep.nil))) ?_
  refine at_ret Try.func15 (res1 rfl rfl) ?_
  exact ⟨rfl, rfl⟩
theorem balance_ok (es : List Entry) (g : Nat) (b : World) (H : List Asr) (hb : -1000000000000 ≤ stl es ∧ stl es ≤ 1000000000000) (t : Int) (ht : 0 ≤ t ∧ t ≤ 1000000000000) : Fn Try.prog 21 [.pointer (some ⟨g, 0, none⟩), .int .i64 t] b (Acc g es :: H) (fun v H' => v = .tuple #[.int .i64 (t - stl es), .int .i64 0] ∧ Acc g es :: H = H') := by
  refine Acc.fn fun A c m => ?_
  refine fn_of_at (by kernel_rfl) Try.func21 rfl Try.ntmps21 rfl rfl ?_
  refine at_seq ?_
  refine at_region ?_
  refine wl_read rfl rfl rfl (yl_assign rfl rfl) ?_
  refine wl_read rfl rfl rfl (yl_assign rfl rfl) ?_
  refine wl_nil ?_
  refine at_keep (Keep.cons 0 rfl (Keep.cons 1 rfl (Keep.cons 4 rfl (Keep.cons 5 rfl Keep.nil)))) ?_
  refine at_seq ?_
  refine at_seq ?_
  refine at_region ?_
  refine wl_read rfl rfl rfl (yl_move rfl rfl) ?_
  refine wl_read rfl rfl rfl (yl_eqPtr rfl rfl rfl (by kernel_rfl) rfl) ?_
  refine wl_read rfl rfl rfl (yl_move rfl rfl) ?_
  refine wl_read rfl rfl rfl (yl_move rfl rfl) ?_
  refine wl_read rfl rfl rfl ((yp_lss rfl rfl rfl).2 (by omega)) ?_
  refine wl_read rfl rfl rfl (yl_pickF rfl rfl rfl) ?_
  refine wl_read rfl rfl rfl (yl_move rfl rfl) ?_
  refine wl_read rfl rfl rfl (yl_move rfl rfl) ?_
  refine wl_read rfl rfl rfl ((yp_gtr rfl rfl rfl).2 (by omega)) ?_
  refine wl_read rfl rfl rfl (yl_pickF rfl rfl rfl) ?_
  refine wl_nil ?_
  refine at_keep (Keep.cons 0 rfl (Keep.cons 1 rfl (Keep.cons 4 rfl (Keep.cons 5 rfl (Keep.cons 15 rfl Keep.nil))))) ?_
  refine at_false rfl ?_
  refine at_skip ?_
  refine at_seq ?_
  refine at_region ?_
  refine wl_read rfl rfl rfl (yl_move rfl rfl) ?_
  refine wl_read rfl rfl rfl (yl_move rfl rfl) ?_
  refine wl_read rfl rfl rfl (yl_nilCheck rfl rfl) ?_
  refine wl_read rfl rfl rfl (yl_fieldB rfl rfl Try.underlying54 rfl (by kernel_rfl) rfl) ?_
  refine wl_read rfl rfl rfl (yl_load rfl rfl Try.underlying3 rfl (CellAt.bk 0 rfl rfl)) ?_
  refine wl_read rfl rfl rfl (yl_sub rfl rfl rfl (w64 (by omega) (by omega))) ?_
  refine wl_read rfl rfl rfl (yl_assign rfl rfl) ?_
  refine wl_read rfl rfl rfl (yl_assign rfl rfl) ?_
  refine wl_nil ?_
  refine at_keep (Keep.cons 0 rfl (Keep.cons 1 rfl (Keep.cons 4 rfl (Keep.cons 5 rfl (Keep.cons 15 rfl Keep.nil))))) ?_
  refine at_retH (fun _ hw => Acc.closes hw rfl rfl) Try.func21 (res2 rfl rfl rfl) ?_
  exact ⟨rfl, rfl⟩
theorem balance_bad (es : List Entry) (g : Nat) (b : World) (H : List Asr) (t : Int) (ht : ¬ (0 ≤ t ∧ t ≤ 1000000000000)) : Fn Try.prog 21 [.pointer (some ⟨g, 0, none⟩), .int .i64 t] b (Acc g es :: H) (fun v H' => v = .tuple #[.int .i64 0, .int .i64 1] ∧ Acc g es :: H = H') := by
  refine Acc.fn fun A c m => ?_
  refine fn_of_at (by kernel_rfl) Try.func21 rfl Try.ntmps21 rfl rfl ?_
  refine at_seq ?_
  refine at_region ?_
  refine wl_read rfl rfl rfl (yl_assign rfl rfl) ?_
  refine wl_read rfl rfl rfl (yl_assign rfl rfl) ?_
  refine wl_nil ?_
  refine at_keep (Keep.cons 0 rfl (Keep.cons 1 rfl (Keep.cons 4 rfl (Keep.cons 5 rfl Keep.nil)))) ?_
  refine at_seq ?_
  refine at_seq ?_
  refine at_region ?_
  refine wl_read rfl rfl rfl (yl_move rfl rfl) ?_
  refine wl_read rfl rfl rfl (yl_eqPtr rfl rfl rfl (by kernel_rfl) rfl) ?_
  refine wl_read rfl rfl rfl (yl_move rfl rfl) ?_
  refine wl_read rfl rfl rfl (yl_move rfl rfl) ?_
  refine wl_split rfl rfl rfl (yp_lss rfl rfl rfl) ?_ ?_
  · intro h1_4
    refine wl_read rfl rfl rfl (yl_pickF rfl rfl rfl) ?_
    refine wl_read rfl rfl rfl (yl_move rfl rfl) ?_
    refine wl_skip rfl rfl rfl ?_
    refine wl_skip rfl rfl rfl ?_
    refine wl_read rfl rfl rfl (yl_pickT rfl rfl rfl) ?_
    refine wl_nil ?_
    refine at_keep (Keep.cons 0 rfl (Keep.cons 1 rfl (Keep.cons 4 rfl (Keep.cons 5 rfl (Keep.cons 15 rfl Keep.nil))))) ?_
    refine at_true rfl ?_
    refine at_seq ?_
    refine at_region ?_
    refine wl_read rfl rfl rfl (yl_assign rfl rfl) ?_
    refine wl_read rfl rfl rfl (yl_assign rfl rfl) ?_
    refine wl_nil ?_
    refine at_keep (Keep.cons 0 rfl (Keep.cons 1 rfl (Keep.cons 4 rfl (Keep.cons 5 rfl (Keep.cons 15 rfl Keep.nil))))) ?_
    refine at_retH (fun _ hw => Acc.closes hw rfl rfl) Try.func21 (res2 rfl rfl rfl) ?_
    exact ⟨rfl, rfl⟩
  · intro h1_4
    refine wl_read rfl rfl rfl (yl_pickF rfl rfl rfl) ?_
    refine wl_read rfl rfl rfl (yl_move rfl rfl) ?_
    refine wl_read rfl rfl rfl (yl_move rfl rfl) ?_
    refine wl_read rfl rfl rfl ((yp_gtr rfl rfl rfl).1 (by omega)) ?_
    refine wl_read rfl rfl rfl (yl_pickF rfl rfl rfl) ?_
    refine wl_nil ?_
    refine at_keep (Keep.cons 0 rfl (Keep.cons 1 rfl (Keep.cons 4 rfl (Keep.cons 5 rfl (Keep.cons 15 rfl Keep.nil))))) ?_
    refine at_true rfl ?_
    refine at_seq ?_
    refine at_region ?_
    refine wl_read rfl rfl rfl (yl_assign rfl rfl) ?_
    refine wl_read rfl rfl rfl (yl_assign rfl rfl) ?_
    refine wl_nil ?_
    refine at_keep (Keep.cons 0 rfl (Keep.cons 1 rfl (Keep.cons 4 rfl (Keep.cons 5 rfl (Keep.cons 15 rfl Keep.nil))))) ?_
    refine at_retH (fun _ hw => Acc.closes hw rfl rfl) Try.func21 (res2 rfl rfl rfl) ?_
    exact ⟨rfl, rfl⟩
theorem balance_nil (t : Int) (b : World) (H : List Asr) : Fn Try.prog 21 [.pointer none, .int .i64 t] b H (fun v H' => v = .tuple #[.int .i64 0, .int .i64 1] ∧ H = H') := by
  refine fn_of_at (by kernel_rfl) Try.func21 rfl Try.ntmps21 rfl rfl ?_
  refine at_seq ?_
  refine at_region ?_
  refine wl_read rfl rfl rfl (yl_assign rfl rfl) ?_
  refine wl_read rfl rfl rfl (yl_assign rfl rfl) ?_
  refine wl_nil ?_
  refine at_keep (Keep.cons 0 rfl (Keep.cons 1 rfl (Keep.cons 4 rfl (Keep.cons 5 rfl Keep.nil)))) ?_
  refine at_seq ?_
  refine at_seq ?_
  refine at_region ?_
  refine wl_read rfl rfl rfl (yl_move rfl rfl) ?_
  refine wl_read rfl rfl rfl (yl_eqPtr rfl rfl rfl (by kernel_rfl) rfl) ?_
  refine wl_read rfl rfl rfl (yl_move rfl rfl) ?_
  refine wl_skip rfl rfl rfl ?_
  refine wl_skip rfl rfl rfl ?_
  refine wl_read rfl rfl rfl (yl_pickT rfl rfl rfl) ?_
  refine wl_read rfl rfl rfl (yl_move rfl rfl) ?_
  refine wl_skip rfl rfl rfl ?_
  refine wl_skip rfl rfl rfl ?_
  refine wl_read rfl rfl rfl (yl_pickT rfl rfl rfl) ?_
  refine wl_nil ?_
  refine at_keep (Keep.cons 0 rfl (Keep.cons 1 rfl (Keep.cons 4 rfl (Keep.cons 5 rfl (Keep.cons 15 rfl Keep.nil))))) ?_
  refine at_true rfl ?_
  refine at_seq ?_
  refine at_region ?_
  refine wl_read rfl rfl rfl (yl_assign rfl rfl) ?_
  refine wl_read rfl rfl rfl (yl_assign rfl rfl) ?_
  refine wl_nil ?_
  refine at_keep (Keep.cons 0 rfl (Keep.cons 1 rfl (Keep.cons 4 rfl (Keep.cons 5 rfl (Keep.cons 15 rfl Keep.nil))))) ?_
  refine at_ret Try.func21 (res2 rfl rfl rfl) ?_
  exact ⟨rfl, rfl⟩
theorem has_fn (es : List Entry) (g : Nat) (b : World) (H : List Asr) (k : Key) : Fn Try.prog 20 [.pointer (some ⟨g, 0, none⟩), .int .i64 k.1, .int .i64 k.2.1, .int .i64 k.2.2] b (Acc g es :: H) (fun v H' => v = .bool (decide (0 < cnt es k)) ∧ Acc g es :: H = H') := by
  refine Acc.fn fun A c m => ?_
  refine fn_of_at (by kernel_rfl) Try.func20 rfl Try.ntmps20 rfl rfl ?_
  refine at_seq ?_
  refine at_region ?_
  refine wl_read rfl rfl rfl (yl_assign rfl rfl) ?_
  refine wl_nil ?_
  refine at_keep (Keep.cons 0 rfl (Keep.cons 1 rfl (Keep.cons 2 rfl (Keep.cons 3 rfl (Keep.cons 8 rfl Keep.nil))))) ?_
  refine at_seq ?_
  refine at_region ?_
  refine wl_read rfl rfl rfl (yl_move rfl rfl) ?_
  refine wl_read rfl rfl rfl (yl_nePtr rfl rfl rfl (by kernel_rfl) rfl) ?_
  refine wl_read rfl rfl rfl (yl_move rfl rfl) ?_
  refine wl_read rfl rfl rfl (yl_move rfl rfl) ?_
  refine wl_read rfl rfl rfl (yl_nilCheck rfl rfl) ?_
  refine wl_read rfl rfl rfl (yl_fieldB rfl rfl Try.underlying54 rfl (by kernel_rfl) rfl) ?_
  refine wl_read rfl rfl rfl (yl_load rfl rfl Try.underlying52 rfl (CellAt.bk 0 rfl rfl)) ?_
  refine wl_read rfl rfl rfl (yl_move rfl rfl) ?_
  refine wl_read rfl rfl rfl (yl_move rfl rfl) ?_
  refine wl_read rfl rfl rfl (yl_move rfl rfl) ?_
  refine wl_read rfl rfl rfl (yl_build (cs := [.int .i64 k.1, .int .i64 k.2.1, .int .i64 k.2.2]) rfl rfl (fun _ => by kernel_rfl)) ?_
  refine wl_read rfl rfl rfl (yl_lookM 2 keyOk rfl k rfl rfl rfl Try.underlying52 zero3) ?_
  refine wl_split rfl rfl rfl (yp_gtr rfl rfl rfl) ?_ ?_
  · intro h1_12
    refine wl_read rfl rfl rfl (yl_pickT rfl rfl rfl) ?_
    refine wl_read rfl rfl rfl (yl_assign rfl rfl) ?_
    refine wl_nil ?_
    refine at_keep (Keep.cons 0 rfl (Keep.cons 1 rfl (Keep.cons 2 rfl (Keep.cons 3 rfl (Keep.cons 8 rfl Keep.nil))))) ?_
    refine at_retH (fun _ hw => Acc.closes hw rfl rfl) Try.func20 (res1 rfl rfl) ?_
    exact ⟨congrArg Value.bool (decide_eq_true (by omega)).symm, rfl⟩
  · intro h1_12
    refine wl_read rfl rfl rfl (yl_pickT rfl rfl rfl) ?_
    refine wl_read rfl rfl rfl (yl_assign rfl rfl) ?_
    refine wl_nil ?_
    refine at_keep (Keep.cons 0 rfl (Keep.cons 1 rfl (Keep.cons 2 rfl (Keep.cons 3 rfl (Keep.cons 8 rfl Keep.nil))))) ?_
    refine at_retH (fun _ hw => Acc.closes hw rfl rfl) Try.func20 (res1 rfl rfl) ?_
    exact ⟨congrArg Value.bool (decide_eq_false (by omega)).symm, rfl⟩
theorem has_at (es : List Entry) (g : Nat) (b : World) (H : List Asr) {A : Option Addr} {c m : Nat} {s : Int} (n1 n2 : Nat) (h1 : H[n1]? = some (accB g A c m es s)) (h2 : H[n2]? = some (Mp kv m (cnt es))) (k : Key) : Fn Try.prog 20 [.pointer (some ⟨g, 0, none⟩), .int .i64 k.1, .int .i64 k.2.1, .int .i64 k.2.2] b H (fun v H' => v = .bool (decide (0 < cnt es k)) ∧ H = H') := by
  refine fn_of_at (by kernel_rfl) Try.func20 rfl Try.ntmps20 rfl rfl ?_
  refine at_seq ?_
  refine at_region ?_
  refine wl_read rfl rfl rfl (yl_assign rfl rfl) ?_
  refine wl_nil ?_
  refine at_keep (Keep.cons 0 rfl (Keep.cons 1 rfl (Keep.cons 2 rfl (Keep.cons 3 rfl (Keep.cons 8 rfl Keep.nil))))) ?_
  refine at_seq ?_
  refine at_region ?_
  refine wl_read rfl rfl rfl (yl_move rfl rfl) ?_
  refine wl_read rfl rfl rfl (yl_nePtr rfl rfl rfl (by kernel_rfl) rfl) ?_
  refine wl_read rfl rfl rfl (yl_move rfl rfl) ?_
  refine wl_read rfl rfl rfl (yl_move rfl rfl) ?_
  refine wl_read rfl rfl rfl (yl_nilCheck rfl rfl) ?_
  refine wl_read rfl rfl rfl (yl_fieldB rfl rfl Try.underlying54 rfl (by kernel_rfl) rfl) ?_
  refine wl_read rfl rfl rfl (yl_load rfl rfl Try.underlying52 rfl (CellAt.bk n1 h1 rfl)) ?_
  refine wl_read rfl rfl rfl (yl_move rfl rfl) ?_
  refine wl_read rfl rfl rfl (yl_move rfl rfl) ?_
  refine wl_read rfl rfl rfl (yl_move rfl rfl) ?_
  refine wl_read rfl rfl rfl (yl_build (cs := [.int .i64 k.1, .int .i64 k.2.1, .int .i64 k.2.2]) rfl rfl (fun _ => by kernel_rfl)) ?_
  refine wl_read rfl rfl rfl (yl_lookM n2 keyOk h2 k rfl rfl rfl Try.underlying52 zero3) ?_
  refine wl_split rfl rfl rfl (yp_gtr rfl rfl rfl) ?_ ?_
  · intro h1_12
    refine wl_read rfl rfl rfl (yl_pickT rfl rfl rfl) ?_
    refine wl_read rfl rfl rfl (yl_assign rfl rfl) ?_
    refine wl_nil ?_
    refine at_keep (Keep.cons 0 rfl (Keep.cons 1 rfl (Keep.cons 2 rfl (Keep.cons 3 rfl (Keep.cons 8 rfl Keep.nil))))) ?_
    refine at_ret Try.func20 (res1 rfl rfl) ?_
    exact ⟨congrArg Value.bool (decide_eq_true (by omega)).symm, rfl⟩
  · intro h1_12
    refine wl_read rfl rfl rfl (yl_pickT rfl rfl rfl) ?_
    refine wl_read rfl rfl rfl (yl_assign rfl rfl) ?_
    refine wl_nil ?_
    refine at_keep (Keep.cons 0 rfl (Keep.cons 1 rfl (Keep.cons 2 rfl (Keep.cons 3 rfl (Keep.cons 8 rfl Keep.nil))))) ?_
    refine at_ret Try.func20 (res1 rfl rfl) ?_
    exact ⟨congrArg Value.bool (decide_eq_false (by omega)).symm, rfl⟩
theorem has_nil (x y z : Int) (b : World) (H : List Asr) : Fn Try.prog 20 [.pointer none, .int .i64 x, .int .i64 y, .int .i64 z] b H (fun v H' => v = .bool false ∧ H = H') := by
  refine fn_of_at (by kernel_rfl) Try.func20 rfl Try.ntmps20 rfl rfl ?_
  refine at_seq ?_
  refine at_region ?_
  refine wl_read rfl rfl rfl (yl_assign rfl rfl) ?_
  refine wl_nil ?_
  refine at_keep (Keep.cons 0 rfl (Keep.cons 1 rfl (Keep.cons 2 rfl (Keep.cons 3 rfl (Keep.cons 8 rfl Keep.nil))))) ?_
  refine at_seq ?_
  refine at_region ?_
  refine wl_read rfl rfl rfl (yl_move rfl rfl) ?_
  refine wl_read rfl rfl rfl (yl_nePtr rfl rfl rfl (by kernel_rfl) rfl) ?_
  refine wl_read rfl rfl rfl (yl_move rfl rfl) ?_
  refine wl_skip rfl rfl rfl ?_
  refine wl_skip rfl rfl rfl ?_
  refine wl_skip rfl rfl rfl ?_
  refine wl_skip rfl rfl rfl ?_
  refine wl_skip rfl rfl rfl ?_
  refine wl_skip rfl rfl rfl ?_
  refine wl_skip rfl rfl rfl ?_
  refine wl_skip rfl rfl rfl ?_
  refine wl_skip rfl rfl rfl ?_
  refine wl_skip rfl rfl rfl ?_
  refine wl_read rfl rfl rfl (yl_pickF rfl rfl rfl) ?_
  refine wl_read rfl rfl rfl (yl_assign rfl rfl) ?_
  refine wl_nil ?_
  refine at_keep (Keep.cons 0 rfl (Keep.cons 1 rfl (Keep.cons 2 rfl (Keep.cons 3 rfl (Keep.cons 8 rfl Keep.nil))))) ?_
  refine at_ret Try.func20 (res1 rfl rfl) ?_
  exact ⟨rfl, rfl⟩
theorem sum_fn (es : List Entry) (g : Nat) (b : World) (H : List Asr) (kd : Int) (hg : Good es) (hl : es.length ≤ 1000) : Fn Try.prog 25 [.pointer (some ⟨g, 0, none⟩), .int .i64 kd] b (Acc g es :: H) (fun v H' => v = .int .i64 (sumK es kd) ∧ Acc g es :: H = H') := by
  refine fn_of_at (by kernel_rfl) Try.func25 rfl Try.ntmps25 rfl rfl ?_
  refine at_seq ?_
  refine at_region ?_
  refine wl_read rfl rfl rfl (yl_assign rfl rfl) ?_
  refine wl_nil ?_
  refine at_keep (Keep.cons 0 rfl (Keep.cons 1 rfl (Keep.cons 4 rfl Keep.nil))) ?_
  refine at_seq ?_
  refine at_region ?_
  refine wl_read rfl rfl rfl (yl_assign rfl rfl) ?_
  refine wl_nil ?_
  refine at_keep (Keep.cons 0 rfl (Keep.cons 1 rfl (Keep.cons 4 rfl (Keep.cons 5 rfl Keep.nil)))) ?_
  refine at_seq ?_
  refine at_seq ?_
  refine at_region ?_
  refine wl_read rfl rfl rfl (yl_move rfl rfl) ?_
  refine wl_call rfl rfl rfl (en_call rfl rfl) (entries_fn es g _ _ hl) ?_
  rintro _ _ ⟨A1, c1, rfl, rfl⟩
  refine wl_read rfl rfl rfl (yl_len rfl rfl Try.underlying27) ?_
  refine wl_read rfl rfl rfl (yl_move rfl rfl) ?_
  refine wl_nil ?_
  refine at_keep (Keep.cons 0 rfl (Keep.cons 1 rfl (Keep.cons 4 rfl (Keep.cons 5 rfl (Keep.cons 9 rfl (Keep.cons 10 rfl (Keep.cons 11 rfl Keep.nil))))))) ?_
  refine at_block ?_
  refine at_keep (L' := (fun (k : Nat) => [(1, .int .i64 kd), (5, .int .i64 (sumN es kd k)), (9, .slice A1 es.length c1), (10, .int .i64 (es.length : Int)), (11, .int .i64 (k : Int))]) 0) (Keep.consEq 1 rfl rfl (Keep.consEq 5 rfl rfl (Keep.consEq 9 rfl rfl (Keep.consEq 10 rfl rfl (Keep.consEq 11 rfl rfl Keep.nil))))) ?_
  refine at_loop1 (fun (k : Nat) => k ≤ es.length) (fun (k : Nat) => [(1, .int .i64 kd), (5, .int .i64 (sumN es kd k)), (9, .slice A1 es.length c1), (10, .int .i64 (es.length : Int)), (11, .int .i64 (k : Int))]) (fun (k : Nat) => Sl A1 c1 33 es :: Acc g es :: H) (fun (k : Nat) => es.length - k) 0 (by omega) ?_
  intro k hI ih
  have hsb := sumN_bd hg kd k (by omega)
  refine at_seq ?_
  refine at_region ?_
  refine wl_split rfl rfl rfl (yp_lss rfl rfl rfl) ?_ ?_
  · intro h3_0
    refine wl_nil ?_
    refine at_keep (Keep.cons 1 rfl (Keep.cons 5 rfl (Keep.cons 9 rfl (Keep.cons 10 rfl (Keep.cons 11 rfl (Keep.cons 12 rfl Keep.nil)))))) ?_
    refine at_seq ?_
    refine at_true rfl ?_
    refine at_skip ?_
    refine at_seq ?_
    refine at_block ?_
    refine at_seq ?_
    have hk1 : k < es.length := by omega
    have hav := (hg.valid k hk1).1
    refine at_region ?_
    refine wl_read rfl rfl rfl (yl_index rfl rfl rfl (Rd.of_sl 0 rfl) (at_some hk1) rfl rfl Try.underlying27 (by kernel_rfl) rfl) ?_
    refine wl_read rfl rfl rfl (yl_loadRow rfl rfl (Rd.of_sl 0 rfl) (at_some hk1) Try.underlying33 rfl (by kernel_rfl) rfl) ?_
    refine wl_eff rfl rfl rfl (ef_alloc (cs := [.int .i64 0, .int .i64 0, .int .i64 0, .int .i64 0, .int .i64 0]) (z := .agg #[.int .i64 0, .int .i64 0, .int .i64 0, .int .i64 0, .int .i64 0]) rfl (by kernel_rfl) rfl) ?_
    rintro _ _ ⟨gk, rfl, rfl⟩
    refine wl_store rfl rfl (es_at0 (es_storeN 0 rfl rfl rfl rfl (by kernel_rfl) rfl rfl)) ?_
    refine wl_nil ?_
    refine at_keep (Keep.cons 1 rfl (Keep.cons 5 rfl (Keep.cons 7 rfl (Keep.cons 9 rfl (Keep.cons 10 rfl (Keep.cons 11 rfl (Keep.cons 12 rfl Keep.nil))))))) ?_
    refine at_seq ?_
    refine at_region ?_
    refine wl_read rfl rfl rfl (yl_fieldB rfl rfl Try.underlying33 rfl (by kernel_rfl) rfl) ?_
    refine wl_read rfl rfl rfl (yl_load rfl rfl Try.underlying3 rfl (CellAt.bk 0 rfl rfl)) ?_
    refine wl_read rfl rfl rfl (yl_move rfl rfl) ?_
    refine wl_split rfl rfl rfl (yp_eql rfl rfl rfl) ?_ ?_
    · intro h5_3
      refine wl_nil ?_
      refine at_keep (Keep.cons 1 rfl (Keep.cons 5 rfl (Keep.cons 7 rfl (Keep.cons 9 rfl (Keep.cons 10 rfl (Keep.cons 11 rfl (Keep.cons 12 rfl (Keep.cons 18 rfl Keep.nil)))))))) ?_
      refine at_true rfl ?_
      refine at_region ?_
      refine wl_read rfl rfl rfl (yl_move rfl rfl) ?_
      refine wl_read rfl rfl rfl (yl_fieldB rfl rfl Try.underlying33 rfl (by kernel_rfl) rfl) ?_
      refine wl_read rfl rfl rfl (yl_load rfl rfl Try.underlying3 rfl (CellAt.bk 0 rfl rfl)) ?_
      refine wl_read rfl rfl rfl (yl_add rfl rfl rfl (w64 (by omega) (by omega))) ?_
      refine wl_read rfl rfl rfl (yl_assign rfl rfl) ?_
      refine wl_nil ?_
      refine at_keep (Keep.cons 1 rfl (Keep.cons 5 rfl (Keep.cons 7 rfl (Keep.cons 9 rfl (Keep.cons 10 rfl (Keep.cons 11 rfl (Keep.cons 12 rfl (Keep.cons 18 rfl Keep.nil)))))))) ?_
      refine at_inBlock ?_
      refine at_heap (fun _ hw => hw.tail) ?_
      have hs : sumN es kd (k + 1) = sumN es kd k + (at_ es k).amount := by rw [sumN, if_pos h5_3]
      refine at_region ?_
      refine wl_read rfl rfl rfl (yl_add rfl rfl rfl (w64 (by omega) (by omega))) ?_
      refine wl_read rfl rfl rfl (yl_move rfl rfl) ?_
      refine wl_nil ?_
      refine at_keep (Keep.cons 1 rfl (Keep.cons 5 rfl (Keep.cons 7 rfl (Keep.cons 9 rfl (Keep.cons 10 rfl (Keep.cons 11 rfl (Keep.cons 12 rfl (Keep.cons 18 rfl Keep.nil)))))))) ?_
      exact at_keep (L' := (fun (k : Nat) => [(1, .int .i64 kd), (5, .int .i64 (sumN es kd k)), (9, .slice A1 es.length c1), (10, .int .i64 (es.length : Int)), (11, .int .i64 (k : Int))]) (k + 1)) (Keep.consEq 1 rfl rfl (Keep.consEq 5 rfl (by rw [hs]) (Keep.consEq 9 rfl rfl (Keep.consEq 10 rfl rfl (Keep.consEq 11 rfl rfl Keep.nil))))) (ih (k + 1) (by omega) (by omega))
    · intro h5_3
      refine wl_nil ?_
      refine at_keep (Keep.cons 1 rfl (Keep.cons 5 rfl (Keep.cons 7 rfl (Keep.cons 9 rfl (Keep.cons 10 rfl (Keep.cons 11 rfl (Keep.cons 12 rfl (Keep.cons 18 rfl Keep.nil)))))))) ?_
      refine at_false rfl ?_
      refine at_skip ?_
      refine at_inBlock ?_
      refine at_heap (fun _ hw => hw.tail) ?_
      have hs : sumN es kd (k + 1) = sumN es kd k := by rw [sumN, if_neg h5_3, Int.add_zero]
      refine at_region ?_
      refine wl_read rfl rfl rfl (yl_add rfl rfl rfl (w64 (by omega) (by omega))) ?_
      refine wl_read rfl rfl rfl (yl_move rfl rfl) ?_
      refine wl_nil ?_
      refine at_keep (Keep.cons 1 rfl (Keep.cons 5 rfl (Keep.cons 7 rfl (Keep.cons 9 rfl (Keep.cons 10 rfl (Keep.cons 11 rfl (Keep.cons 12 rfl (Keep.cons 18 rfl Keep.nil)))))))) ?_
      exact at_keep (L' := (fun (k : Nat) => [(1, .int .i64 kd), (5, .int .i64 (sumN es kd k)), (9, .slice A1 es.length c1), (10, .int .i64 (es.length : Int)), (11, .int .i64 (k : Int))]) (k + 1)) (Keep.consEq 1 rfl rfl (Keep.consEq 5 rfl (by rw [hs]) (Keep.consEq 9 rfl rfl (Keep.consEq 10 rfl rfl (Keep.consEq 11 rfl rfl Keep.nil))))) (ih (k + 1) (by omega) (by omega))
  · intro h3_0
    refine wl_nil ?_
    refine at_keep (Keep.cons 1 rfl (Keep.cons 5 rfl (Keep.cons 9 rfl (Keep.cons 10 rfl (Keep.cons 11 rfl (Keep.cons 12 rfl Keep.nil)))))) ?_
    refine at_seq ?_
    refine at_false rfl ?_
    refine at_exit rfl ?_
    refine at_seq ?_
    obtain rfl : k = es.length := by omega
    refine at_region ?_
    refine wl_read rfl rfl rfl (yl_move rfl rfl) ?_
    refine wl_read rfl rfl rfl (yl_assign rfl rfl) ?_
    refine wl_nil ?_
    refine at_keep (Keep.cons 1 rfl (Keep.cons 4 rfl (Keep.cons 5 rfl (Keep.cons 9 rfl (Keep.cons 10 rfl (Keep.cons 11 rfl (Keep.cons 12 rfl Keep.nil))))))) ?_
    refine at_retH (fun _ hw => hw.tail) Try.func25 (res1 rfl rfl) ?_
    exact ⟨rfl, rfl⟩
theorem sum_nil (kd : Int) (b : World) (H : List Asr) : Fn Try.prog 25 [.pointer none, .int .i64 kd] b H (fun v H' => v = .int .i64 0 ∧ H = H') := by
  refine fn_of_at (by kernel_rfl) Try.func25 rfl Try.ntmps25 rfl rfl ?_
  refine at_seq ?_
  refine at_region ?_
  refine wl_read rfl rfl rfl (yl_assign rfl rfl) ?_
  refine wl_nil ?_
  refine at_keep (Keep.cons 0 rfl (Keep.cons 1 rfl (Keep.cons 4 rfl Keep.nil))) ?_
  refine at_seq ?_
  refine at_region ?_
  refine wl_read rfl rfl rfl (yl_assign rfl rfl) ?_
  refine wl_nil ?_
  refine at_keep (Keep.cons 0 rfl (Keep.cons 1 rfl (Keep.cons 4 rfl (Keep.cons 5 rfl Keep.nil)))) ?_
  refine at_seq ?_
  refine at_seq ?_
  refine at_region ?_
  refine wl_read rfl rfl rfl (yl_move rfl rfl) ?_
  refine wl_call rfl rfl rfl (en_call rfl rfl) (entries_nil _ _) ?_
  rintro _ _ ⟨rfl, rfl⟩
  refine wl_read rfl rfl rfl (yl_len rfl rfl Try.underlying27) ?_
  refine wl_read rfl rfl rfl (yl_move rfl rfl) ?_
  refine wl_nil ?_
  refine at_keep (Keep.cons 0 rfl (Keep.cons 1 rfl (Keep.cons 4 rfl (Keep.cons 5 rfl (Keep.cons 9 rfl (Keep.cons 10 rfl (Keep.cons 11 rfl Keep.nil))))))) ?_
  refine at_block ?_
  refine at_keep (L' := (fun (k : Nat) => [(5, .int .i64 0), (10, .int .i64 0), (11, .int .i64 (k : Int))]) 0) (Keep.consEq 5 rfl rfl (Keep.consEq 10 rfl rfl (Keep.consEq 11 rfl rfl Keep.nil))) ?_
  refine at_loop1 (fun (k : Nat) => k = 0) (fun (k : Nat) => [(5, .int .i64 0), (10, .int .i64 0), (11, .int .i64 (k : Int))]) (fun (k : Nat) => H) (fun (k : Nat) => k) 0 rfl ?_
  intro k hI ih
  refine at_seq ?_
  refine at_region ?_
  refine wl_read rfl rfl rfl ((yp_lss rfl rfl rfl).2 (by omega)) ?_
  refine wl_nil ?_
  refine at_keep (Keep.cons 5 rfl (Keep.cons 10 rfl (Keep.cons 11 rfl (Keep.cons 12 rfl Keep.nil)))) ?_
  refine at_seq ?_
  refine at_false rfl ?_
  refine at_exit rfl ?_
  refine at_seq ?_
  refine at_region ?_
  refine wl_read rfl rfl rfl (yl_move rfl rfl) ?_
  refine wl_read rfl rfl rfl (yl_assign rfl rfl) ?_
  refine wl_nil ?_
  refine at_keep (Keep.cons 4 rfl (Keep.cons 5 rfl (Keep.cons 10 rfl (Keep.cons 11 rfl (Keep.cons 12 rfl Keep.nil))))) ?_
  refine at_ret Try.func25 (res1 rfl rfl) ?_
  exact ⟨rfl, rfl⟩
theorem mapclone_fn {f : Key → Int} {m : Nat} (n : Nat) (b : World) (H : List Asr) (hn : H[n]? = some (Mp kv m f)) : Fn Try.prog 35 [.map (some m)] b H (fun v H' => ∃ m', v = .map (some m') ∧ H' = Mp kv m' f :: H) := by
  refine fn_of_at (by kernel_rfl) Try.func35 rfl Try.ntmps35 rfl rfl ?_
  refine at_seq ?_
  refine at_region ?_
  refine wl_read rfl rfl rfl (yl_assign rfl rfl) ?_
  refine wl_nil ?_
  refine at_keep (Keep.cons 0 rfl (Keep.cons 2 rfl Keep.nil)) ?_
  refine at_seq ?_
  refine at_seq ?_
  refine at_region ?_
  refine wl_read rfl rfl rfl (yl_move rfl rfl) ?_
  refine wl_read rfl rfl rfl (yl_eqMap rfl rfl rfl Try.underlying52 rfl) ?_
  refine wl_nil ?_
  refine at_keep (Keep.cons 0 rfl (Keep.cons 2 rfl (Keep.cons 4 rfl Keep.nil))) ?_
  refine at_false rfl ?_
  refine at_skip ?_
  refine at_seq ?_
  refine at_region ?_
  refine wl_read rfl rfl rfl (yl_move rfl rfl) ?_
  refine wl_read rfl rfl rfl (yl_iface rfl rfl (fun _ => by kernel_rfl)) ?_
  refine wl_eff rfl rfl rfl (ef_cloneMap n hn rfl rfl Try.func37 (by kernel_rfl) (by kernel_rfl) (by kernel_rfl) (by kernel_rfl)) ?_
  rintro _ _ ⟨m1, rfl, rfl⟩
  refine wl_read rfl rfl rfl (yl_assert rfl rfl (fun _ => by kernel_rfl)) ?_
  refine wl_read rfl rfl rfl (yl_assign rfl rfl) ?_
  refine wl_nil ?_
  refine at_keep (Keep.cons 0 rfl (Keep.cons 2 rfl (Keep.cons 4 rfl Keep.nil))) ?_
  refine at_ret Try.func35 (res1 rfl rfl) ?_
  exact ⟨m1, rfl, rfl⟩
theorem fork_fn (es : List Entry) (g : Nat) (b : World) (H : List Asr) (hl : es.length ≤ 1000) : Fn Try.prog 26 [.pointer (some ⟨g, 0, none⟩)] b (Acc g es :: H) (fun v H' => ∃ g', v = .pointer (some ⟨g', 0, none⟩) ∧ H' = Acc g' es :: Acc g es :: H) := by
  refine Acc.fn fun A c m => ?_
  refine fn_of_at (by kernel_rfl) Try.func26 rfl Try.ntmps26 rfl rfl ?_
  refine at_seq ?_
  refine at_region ?_
  refine wl_read rfl rfl rfl (yl_assign rfl rfl) ?_
  refine wl_nil ?_
  refine at_keep (Keep.cons 0 rfl (Keep.cons 2 rfl Keep.nil)) ?_
  refine at_seq ?_
  refine at_seq ?_
  refine at_region ?_
  refine wl_read rfl rfl rfl (yl_move rfl rfl) ?_
  refine wl_read rfl rfl rfl (yl_eqPtr rfl rfl rfl (by kernel_rfl) rfl) ?_
  refine wl_nil ?_
  refine at_keep (Keep.cons 0 rfl (Keep.cons 2 rfl (Keep.cons 4 rfl Keep.nil))) ?_
  refine at_false rfl ?_
  refine at_skip ?_
  refine at_seq ?_
  refine at_draw0 (.fl 0 (.fl 1 (.fl 2 (.fl 3 (.fl 5 (.fl 6 (.fl 7 (.fl 8 (.fl 10 (.fl 11 (.fl 12 (.fl 13 (.ef 4 (.ef 9 (.fl 14 (.ef 15 (.fl 16 .nil))))))))))))))))) (by kernel_rfl) (by kernel_rfl) ?_
  refine wt_read rfl rfl rfl rfl (yl_move rfl rfl) ?_
  refine wt_read rfl rfl rfl rfl (yl_nilCheck rfl rfl) ?_
  refine wt_read rfl rfl rfl rfl (yl_fieldB rfl rfl Try.underlying54 rfl (by kernel_rfl) rfl) ?_
  refine wt_read rfl rfl rfl rfl (yl_load rfl rfl Try.underlying27 rfl (CellAt.bk 0 rfl rfl)) ?_
  refine wt_read rfl rfl rfl rfl (yl_move rfl rfl) ?_
  refine wt_read rfl rfl rfl rfl (yl_nilCheck rfl rfl) ?_
  refine wt_read rfl rfl rfl rfl (yl_fieldB rfl rfl Try.underlying54 rfl (by kernel_rfl) rfl) ?_
  refine wt_read rfl rfl rfl rfl (yl_load rfl rfl Try.underlying52 rfl (CellAt.bk 0 rfl rfl)) ?_
  refine wt_read rfl rfl rfl rfl (yl_move rfl rfl) ?_
  refine wt_read rfl rfl rfl rfl (yl_nilCheck rfl rfl) ?_
  refine wt_read rfl rfl rfl rfl (yl_fieldB rfl rfl Try.underlying54 rfl (by kernel_rfl) rfl) ?_
  refine wt_read rfl rfl rfl rfl (yl_load rfl rfl Try.underlying3 rfl (CellAt.bk 0 rfl rfl)) ?_
  refine wt_call rfl rfl rfl rfl (en_call rfl rfl) (clone_fn es A c _ _ (Rd.of_sl 1 rfl) hl) ?_
  rintro _ _ ⟨A1, c1, rfl, rfl⟩
  refine ⟨⟨[_], rfl⟩, ?_⟩
  refine wt_call rfl rfl rfl rfl (en_call rfl rfl) (mapclone_fn 3 _ _ rfl) ?_
  rintro _ _ ⟨m1, rfl, rfl⟩
  refine ⟨⟨[_, _], rfl⟩, ?_⟩
  refine wt_read rfl rfl rfl rfl (yl_build (cs := [.slice A1 es.length c1, .map (some m1), .int .i64 (stl es)]) rfl rfl (fun _ => by kernel_rfl)) ?_
  refine wt_eff rfl rfl rfl rfl (ef_box rfl rfl rfl) ?_
  rintro _ _ ⟨g1, rfl, rfl⟩
  refine ⟨⟨[_, _, _], rfl⟩, ?_⟩
  refine wt_read rfl rfl rfl rfl (yl_assign rfl rfl) ?_
  refine wt_nil ?_
  refine at_keep (Keep.cons 0 rfl (Keep.cons 2 rfl (Keep.cons 4 rfl Keep.nil))) ?_
  refine at_retH (fun _ hw => (Acc.closes (Acc.closes hw.front2.front1 rfl rfl).down3 rfl rfl).front1) Try.func26 (res1 rfl rfl) ?_
  exact ⟨g1, rfl, rfl⟩
theorem fork_nil (b : World) (H : List Asr) : Fn Try.prog 26 [.pointer none] b H (fun v H' => v = .pointer none ∧ H = H') := by
  refine fn_of_at (by kernel_rfl) Try.func26 rfl Try.ntmps26 rfl rfl ?_
  refine at_seq ?_
  refine at_region ?_
  refine wl_read rfl rfl rfl (yl_assign rfl rfl) ?_
  refine wl_nil ?_
  refine at_keep (Keep.cons 0 rfl (Keep.cons 2 rfl Keep.nil)) ?_
  refine at_seq ?_
  refine at_seq ?_
  refine at_region ?_
  refine wl_read rfl rfl rfl (yl_move rfl rfl) ?_
  refine wl_read rfl rfl rfl (yl_eqPtr rfl rfl rfl (by kernel_rfl) rfl) ?_
  refine wl_nil ?_
  refine at_keep (Keep.cons 0 rfl (Keep.cons 2 rfl (Keep.cons 4 rfl Keep.nil))) ?_
  refine at_true rfl ?_
  refine at_seq ?_
  refine at_region ?_
  refine wl_read rfl rfl rfl (yl_assign rfl rfl) ?_
  refine wl_nil ?_
  refine at_keep (Keep.cons 0 rfl (Keep.cons 2 rfl (Keep.cons 4 rfl Keep.nil))) ?_
  refine at_ret Try.func26 (res1 rfl rfl) ?_
  exact ⟨rfl, rfl⟩
end Go.Proofs.Ytplaoddmgfcbcaa

/- Walks of numbers in bytes, and of the calls on one journal. -/
import Derived.Test.YteecjaiklpkhaaaA
namespace Go.Proofs.Yteecjaiklpkhaaa
open Go

/-- The first q of the n lowest bytes of a number, the most significant first. -/
def bg (v n q : Nat) : List UInt8 := (List.range q).map fun i => b8 (v / 2 ^ (8 * (n - 1 - i)))
theorem bg_succ (v n q : Nat) : bg v n q ++ [b8 (v / 2 ^ (8 * (n - 1 - q)))] = bg v n (q + 1) := by simp [bg, List.range_succ]
theorem bg_len (v n q : Nat) : (bg v n q).length = q := by simp [bg]
theorem bg2 (v : Nat) : bg v 2 2 = [b8 (v / 256), b8 v] := by simp [bg, List.range_succ]
theorem bg4 (v : Nat) : bg v 4 4 = be4 v := by simp [bg, List.range_succ, be4]
/-- The number that bytes stand for. -/
def nm (l : List UInt8) : Nat := l.foldl (fun v c => v * 256 + c.toNat) 0
theorem nm_snoc (l : List UInt8) (c : UInt8) : nm (l ++ [c]) = nm l * 256 + c.toNat := by simp [nm]
theorem nm_lt (l : List UInt8) : nm l < 256 ^ l.length := by
  suffices h : ∀ (l : List UInt8) (v k : Nat), v < 256 ^ k → l.foldl (fun v c => v * 256 + c.toNat) v < 256 ^ (k + l.length) by
    have := h l 0 0 (by decide); rwa [Nat.zero_add] at this
  intro l
  induction l with
  | nil => intro v k h; exact h
  | cons c l ih =>
    intro v k h
    have hc := c.toNat_lt
    have h1 := ih (v * 256 + c.toNat) (k + 1) (by rw [Nat.pow_succ]; omega)
    rw [List.foldl_cons, List.length_cons, show k + (l.length + 1) = k + 1 + l.length by omega]
    exact h1
theorem nm_small (l : List UInt8) (h : l.length ≤ 4) : nm l < 4294967296 := Nat.lt_of_lt_of_le (nm_lt l) (by
  have : (256 : Nat) ^ l.length ≤ 256 ^ 4 := Nat.pow_le_pow_right (by decide) h
  omega)

theorem big_fn (x n : Nat) (b : World) (H : List Asr) (hn : n ≤ 4) (hx : x < 4294967296) : Fn Try.prog 38 [.int .i64 (x : Int), .int .i64 (n : Int)] b H (fun v H' => ∃ A c, v = .slice A (bg x n n).length c ∧ H' = Sl A c 5 (bg x n n) :: H) := by
  refine fn_of_at (by kernel_rfl) Try.func38 rfl Try.ntmps38 rfl rfl ?_
  refine at_seq ?_
  refine at_region ?_
  refine wl_read rfl rfl rfl (yl_assign rfl rfl) ?_
  refine wl_nil ?_
  refine at_keep (Keep.cons 0 rfl (Keep.cons 1 rfl (Keep.cons 4 rfl Keep.nil))) ?_
  refine at_seq ?_
  refine at_region ?_
  refine wl_read rfl rfl rfl (yl_assign rfl rfl) ?_
  refine wl_nil ?_
  refine at_keep (Keep.cons 0 rfl (Keep.cons 1 rfl (Keep.cons 4 rfl (Keep.cons 5 rfl Keep.nil)))) ?_
  refine at_seq ?_
  refine at_seq ?_
  refine at_region ?_
  refine wl_read rfl rfl rfl (yl_move rfl rfl) ?_
  refine wl_read rfl rfl rfl (yl_sub rfl rfl rfl (w64 (by omega) (by omega))) ?_
  refine wl_read rfl rfl rfl (yl_assign rfl rfl) ?_
  refine wl_nil ?_
  refine at_keep (Keep.cons 0 rfl (Keep.cons 1 rfl (Keep.cons 4 rfl (Keep.cons 5 rfl (Keep.cons 6 rfl Keep.nil))))) ?_
  refine at_block ?_
  refine at_keep (L' := (fun q (A : Option Addr) (c2 : Nat) => [(0, .int .i64 (x : Int)), (5, .slice A (bg x n q).length c2), (6, .int .i64 ((n : Int) - 1 - (q : Int)))]) 0 none 0) (Keep.consEq 0 rfl rfl (Keep.consEq 5 rfl rfl (Keep.consEq 6 rfl (by congr 1; omega) Keep.nil))) ?_
  refine at_heap (fun _ hw => hw.nilSl (α := UInt8) 5) ?_
  refine at_loop3 (fun q (A : Option Addr) (c2 : Nat) => q ≤ n) (fun q (A : Option Addr) (c2 : Nat) => [(0, .int .i64 (x : Int)), (5, .slice A (bg x n q).length c2), (6, .int .i64 ((n : Int) - 1 - (q : Int)))]) (fun q (A : Option Addr) (c2 : Nat) => Sl A c2 5 (bg x n q) :: H) (fun q (A : Option Addr) (c2 : Nat) => n - q) 0 none 0 (by omega) ?_
  intro q A c2 hI ih
  refine at_seq ?_
  refine at_seq ?_
  refine at_region ?_
  refine wl_read rfl rfl rfl (yl_move rfl rfl) ?_
  refine wl_split rfl rfl rfl (yp_geq rfl rfl rfl) ?_ ?_
  · intro h3_1
    refine wl_nil ?_
    refine at_keep (Keep.cons 0 rfl (Keep.cons 5 rfl (Keep.cons 6 rfl (Keep.cons 10 rfl Keep.nil)))) ?_
    refine at_true rfl ?_
    refine at_skip ?_
    refine at_seq ?_
    refine at_block ?_
    have hq : q < n := by omega
    have hbl := bg_len x n q
    refine at_region ?_
    refine wl_read rfl rfl rfl (yl_move rfl rfl) ?_
    refine wl_read rfl rfl rfl (yl_move rfl rfl) ?_
    refine wl_read rfl rfl rfl (yl_move rfl rfl) ?_
    refine wl_read rfl rfl rfl (yl_mul (r := (((8 * (n - 1 - q)) : Nat) : Int)) rfl rfl rfl (by rw [w64 (by omega) (by omega)]; omega)) ?_
    refine wl_read rfl rfl rfl (yl_conv (r := (((8 * (n - 1 - q)) : Nat) : Int)) rfl rfl rfl Try.underlying61 (wrapu64 (by omega))) ?_
    refine wl_read rfl rfl rfl (yl_shr (r := ((x / 2 ^ (8 * (n - 1 - q)) : Nat) : Int)) rfl rfl rfl (by omega) (by show (((8 * (n - 1 - q)) : Nat) : Int) ≤ ((64 : Nat) : Int); omega) (shr_to x (8 * (n - 1 - q)))) ?_
    refine wl_read rfl rfl rfl (yl_conv rfl rfl rfl Try.underlying5 (wrap8 _)) ?_
    refine wl_eff rfl rfl rfl (ef_buildSlice (e := 5) [b8 (x / 2 ^ (8 * (n - 1 - q)))] rfl rfl (fun _ => by kernel_rfl) rfl rfl) ?_
    rintro _ _ ⟨T5_7, rfl, rfl⟩
    refine wl_eff rfl rfl rfl (ef_append (ys := [b8 (x / 2 ^ (8 * (n - 1 - q)))]) 1 rfl rfl rfl rfl (Rd.of_sl 0 rfl) Try.underlying30 info5 rfl rfl (by simp only [List.length_singleton, maxLen]; omega) (by simp only [List.length_singleton]; omega)) ?_
    rintro _ _ ⟨A1, c1, rfl, hH⟩
    simp only [List.set_cons_succ, List.set_cons_zero] at hH; subst hH
    refine wl_read rfl rfl rfl (yl_assign rfl rfl) ?_
    refine wl_nil ?_
    refine at_keep (Keep.cons 0 rfl (Keep.cons 5 rfl (Keep.cons 6 rfl (Keep.cons 10 rfl Keep.nil)))) ?_
    refine at_inBlock ?_
    refine at_heap (fun _ hw => hw.tail) ?_
    refine at_region ?_
    refine wl_read rfl rfl rfl (yl_move rfl rfl) ?_
    refine wl_read rfl rfl rfl (yl_sub rfl rfl rfl (w64 (by omega) (by omega))) ?_
    refine wl_read rfl rfl rfl (yl_assign rfl rfl) ?_
    refine wl_nil ?_
    refine at_keep (Keep.cons 0 rfl (Keep.cons 5 rfl (Keep.cons 6 rfl (Keep.cons 10 rfl Keep.nil)))) ?_
    rw [bg_succ]
    exact at_keep (L' := (fun q (A : Option Addr) (c2 : Nat) => [(0, .int .i64 (x : Int)), (5, .slice A (bg x n q).length c2), (6, .int .i64 ((n : Int) - 1 - (q : Int)))]) (q + 1) A1 c1) (Keep.consEq 0 rfl rfl (Keep.consEq 5 rfl rfl (Keep.consEq 6 rfl (by congr 1; omega) Keep.nil))) (ih (q + 1) A1 c1 (by omega) (by omega))
  · intro h3_1
    refine wl_nil ?_
    refine at_keep (Keep.cons 0 rfl (Keep.cons 5 rfl (Keep.cons 6 rfl (Keep.cons 10 rfl Keep.nil)))) ?_
    refine at_false rfl ?_
    refine at_exit rfl ?_
    refine at_seq ?_
    obtain rfl : q = n := by omega
    refine at_region ?_
    refine wl_read rfl rfl rfl (yl_move rfl rfl) ?_
    refine wl_read rfl rfl rfl (yl_assign rfl rfl) ?_
    refine wl_nil ?_
    refine at_keep (Keep.cons 0 rfl (Keep.cons 4 rfl (Keep.cons 5 rfl (Keep.cons 6 rfl (Keep.cons 10 rfl Keep.nil))))) ?_
    refine at_ret Try.func38 (res1 rfl rfl) ?_
    exact ⟨A, c2, rfl, rfl⟩
theorem num_fn (bs : List UInt8) (A : Option Addr) (c : Nat) (b : World) (H : List Asr) (hR : Rd H A bs) (hl : bs.length ≤ 4) : Fn Try.prog 36 [.slice A bs.length c] b H (fun v H' => v = .int .i64 ((nm bs : Nat) : Int) ∧ H = H') := by
  refine fn_of_at (by kernel_rfl) Try.func36 rfl Try.ntmps36 rfl rfl ?_
  refine at_seq ?_
  refine at_region ?_
  refine wl_read rfl rfl rfl (yl_assign rfl rfl) ?_
  refine wl_nil ?_
  refine at_keep (Keep.cons 0 rfl (Keep.cons 2 rfl Keep.nil)) ?_
  refine at_seq ?_
  refine at_region ?_
  refine wl_read rfl rfl rfl (yl_assign rfl rfl) ?_
  refine wl_nil ?_
  refine at_keep (Keep.cons 0 rfl (Keep.cons 2 rfl (Keep.cons 3 rfl Keep.nil))) ?_
  refine at_seq ?_
  refine at_seq ?_
  refine at_region ?_
  refine wl_read rfl rfl rfl (yl_assign rfl rfl) ?_
  refine wl_nil ?_
  refine at_keep (Keep.cons 0 rfl (Keep.cons 2 rfl (Keep.cons 3 rfl (Keep.cons 4 rfl Keep.nil)))) ?_
  refine at_block ?_
  refine at_keep (L' := (fun (j : Nat) => [(0, .slice A bs.length c), (3, .int .i64 ((nm (bs.take j) : Nat) : Int)), (4, .int .i64 (j : Int))]) 0) (Keep.consEq 0 rfl rfl (Keep.consEq 3 rfl rfl (Keep.consEq 4 rfl rfl Keep.nil))) ?_
  refine at_loop1 (fun (j : Nat) => j ≤ bs.length) (fun (j : Nat) => [(0, .slice A bs.length c), (3, .int .i64 ((nm (bs.take j) : Nat) : Int)), (4, .int .i64 (j : Int))]) (fun (j : Nat) => H) (fun (j : Nat) => bs.length - j) 0 (by omega) ?_
  intro j hI ih
  refine at_seq ?_
  refine at_seq ?_
  refine at_region ?_
  refine wl_read rfl rfl rfl (yl_move rfl rfl) ?_
  refine wl_read rfl rfl rfl (yl_move rfl rfl) ?_
  refine wl_read rfl rfl rfl (yl_len rfl rfl Try.underlying30) ?_
  refine wl_split rfl rfl rfl (yp_lss rfl rfl rfl) ?_ ?_
  · intro h3_3
    refine wl_nil ?_
    refine at_keep (Keep.cons 0 rfl (Keep.cons 3 rfl (Keep.cons 4 rfl (Keep.cons 8 rfl Keep.nil)))) ?_
    refine at_true rfl ?_
    refine at_skip ?_
    refine at_seq ?_
    refine at_block ?_
    have hj : j < bs.length := by omega
    have hx : nm (bs.take j) < 4294967296 := nm_small _ (by rw [List.length_take]; omega)
    have hcb := (at_ bs j).toNat_lt
    refine at_region ?_
    refine wl_read rfl rfl rfl (yl_move rfl rfl) ?_
    refine wl_read rfl rfl rfl (yl_shl (r := ((nm (bs.take j) * 256 : Nat) : Int)) rfl rfl rfl (by decide) (by decide) (by show IntKind.i64.wrap (((nm (bs.take j) : Nat) : Int) * 256) = _; rw [w64 (by omega) (by omega)]; omega)) ?_
    refine wl_read rfl rfl rfl (yl_move rfl rfl) ?_
    refine wl_read rfl rfl rfl (yl_move rfl rfl) ?_
    refine wl_read rfl rfl rfl (yl_index rfl rfl rfl hR (at_some hj) rfl rfl Try.underlying30 (by kernel_rfl) rfl) ?_
    refine wl_read rfl rfl rfl (yl_load rfl rfl Try.underlying5 rfl (hR.cell2 (at_some hj) (i := 0) rfl)) ?_
    refine wl_read rfl rfl rfl (yl_conv rfl rfl rfl Try.underlying3 (w64 (by omega) (by omega))) ?_
    refine wl_read rfl rfl rfl (yl_or (r := ((nm (bs.take (j + 1)) : Nat) : Int)) rfl rfl rfl (by rw [or64_push _ _ (by omega) hcb, take_succ_at hj, nm_snoc])) ?_
    refine wl_read rfl rfl rfl (yl_assign rfl rfl) ?_
    refine wl_nil ?_
    refine at_keep (Keep.cons 0 rfl (Keep.cons 3 rfl (Keep.cons 4 rfl (Keep.cons 8 rfl Keep.nil)))) ?_
    refine at_inBlock ?_
    refine at_region ?_
    refine wl_read rfl rfl rfl (yl_move rfl rfl) ?_
    refine wl_read rfl rfl rfl (yl_add rfl rfl rfl (w64 (by omega) (by omega))) ?_
    refine wl_read rfl rfl rfl (yl_assign rfl rfl) ?_
    refine wl_nil ?_
    refine at_keep (Keep.cons 0 rfl (Keep.cons 3 rfl (Keep.cons 4 rfl (Keep.cons 8 rfl Keep.nil)))) ?_
    exact at_keep (L' := (fun (j : Nat) => [(0, .slice A bs.length c), (3, .int .i64 ((nm (bs.take j) : Nat) : Int)), (4, .int .i64 (j : Int))]) (j + 1)) (Keep.consEq 0 rfl rfl (Keep.consEq 3 rfl rfl (Keep.consEq 4 rfl rfl Keep.nil))) (ih (j + 1) (by omega) (by omega))
  · intro h3_3
    refine wl_nil ?_
    refine at_keep (Keep.cons 0 rfl (Keep.cons 3 rfl (Keep.cons 4 rfl (Keep.cons 8 rfl Keep.nil)))) ?_
    refine at_false rfl ?_
    refine at_exit rfl ?_
    refine at_seq ?_
    obtain rfl : j = bs.length := by omega
    rw [List.take_length]
    refine at_region ?_
    refine wl_read rfl rfl rfl (yl_move rfl rfl) ?_
    refine wl_read rfl rfl rfl (yl_assign rfl rfl) ?_
    refine wl_nil ?_
    refine at_keep (Keep.cons 0 rfl (Keep.cons 2 rfl (Keep.cons 3 rfl (Keep.cons 4 rfl (Keep.cons 8 rfl Keep.nil))))) ?_
    refine at_ret Try.func36 (res1 rfl rfl) ?_
    exact ⟨rfl, rfl⟩
theorem new_fn (b : World) (H : List Asr) : Fn Try.prog 29 [] b H (fun v H' => ∃ g, v = .pointer (some ⟨g, 0, none⟩) ∧ H' = Jn g [] 0 :: H) := by
  refine fn_of_at (by kernel_rfl) Try.func29 rfl Try.ntmps29 rfl rfl ?_
  refine at_seq ?_
  refine at_region ?_
  refine wl_read rfl rfl rfl (yl_assign rfl rfl) ?_
  refine wl_nil ?_
  refine at_keep (Keep.cons 0 rfl Keep.nil) ?_
  refine at_seq ?_
  refine at_region ?_
  refine wl_read rfl rfl rfl (yl_build (cs := [.slice none 0 0, .int .i64 0, .slice none 0 0]) rfl rfl (fun _ => by kernel_rfl)) ?_
  refine wl_eff rfl rfl rfl (ef_box rfl rfl rfl) ?_
  rintro _ _ ⟨g1_1, rfl, rfl⟩
  refine wl_read rfl rfl rfl (yl_assign rfl rfl) ?_
  refine wl_nil ?_
  refine at_keep (Keep.cons 0 rfl Keep.nil) ?_
  refine at_retH (fun _ hw => Jn.closes (rs := []) (fl := 0) ((hw.nilSl (α := Sp) 58).nilSl (α := UInt8) 5).front2) Try.func29 (res1 rfl rfl) ?_
  exact ⟨g1_1, rfl, rfl⟩
theorem len_fn (rs : List (List UInt8)) (fl g : Nat) (b : World) (H : List Asr) : Fn Try.prog 22 [.pointer (some ⟨g, 0, none⟩)] b (Jn g rs fl :: H) (fun v H' => v = .int .i64 (rs.length : Nat) ∧ Jn g rs fl :: H = H') := by
  refine Jn.fn fun A c A2 c2 => ?_
  refine fn_of_at (by kernel_rfl) Try.func22 rfl Try.ntmps22 rfl rfl ?_
  refine at_seq ?_
  refine at_region ?_
  refine wl_read rfl rfl rfl (yl_assign rfl rfl) ?_
  refine wl_nil ?_
  refine at_keep (Keep.cons 0 rfl (Keep.cons 2 rfl Keep.nil)) ?_
  refine at_seq ?_
  refine at_seq ?_
  refine at_region ?_
  refine wl_read rfl rfl rfl (yl_move rfl rfl) ?_
  refine wl_read rfl rfl rfl (yl_eqPtr rfl rfl rfl (by kernel_rfl) rfl) ?_
  refine wl_nil ?_
  refine at_keep (Keep.cons 0 rfl (Keep.cons 2 rfl (Keep.cons 4 rfl Keep.nil))) ?_
  refine at_false rfl ?_
  refine at_skip ?_
  refine at_seq ?_
  refine at_region ?_
  refine wl_read rfl rfl rfl (yl_move rfl rfl) ?_
  refine wl_read rfl rfl rfl (yl_nilCheck rfl rfl) ?_
  refine wl_read rfl rfl rfl (yl_fieldB rfl rfl Try.underlying55 rfl (by kernel_rfl) rfl) ?_
  refine wl_read rfl rfl rfl (yl_load rfl rfl Try.underlying53 rfl (CellAt.bk 0 rfl rfl)) ?_
  refine wl_read rfl rfl rfl (yl_len rfl rfl Try.underlying53) ?_
  refine wl_read rfl rfl rfl (yl_assign rfl rfl) ?_
  refine wl_nil ?_
  refine at_keep (Keep.cons 0 rfl (Keep.cons 2 rfl (Keep.cons 4 rfl Keep.nil))) ?_
  refine at_retH (fun _ hw => (Jn.closes  (hw.front2.front2.front2))) Try.func22 (res1 rfl rfl) ?_
  exact ⟨by rw [spans_len], rfl⟩
theorem flushed_fn (rs : List (List UInt8)) (fl g : Nat) (b : World) (H : List Asr) : Fn Try.prog 23 [.pointer (some ⟨g, 0, none⟩)] b (Jn g rs fl :: H) (fun v H' => v = .int .i64 (fl : Nat) ∧ Jn g rs fl :: H = H') := by
  refine Jn.fn fun A c A2 c2 => ?_
  refine fn_of_at (by kernel_rfl) Try.func23 rfl Try.ntmps23 rfl rfl ?_
  refine at_seq ?_
  refine at_region ?_
  refine wl_read rfl rfl rfl (yl_assign rfl rfl) ?_
  refine wl_nil ?_
  refine at_keep (Keep.cons 0 rfl (Keep.cons 2 rfl Keep.nil)) ?_
  refine at_seq ?_
  refine at_seq ?_
  refine at_region ?_
  refine wl_read rfl rfl rfl (yl_move rfl rfl) ?_
  refine wl_read rfl rfl rfl (yl_eqPtr rfl rfl rfl (by kernel_rfl) rfl) ?_
  refine wl_nil ?_
  refine at_keep (Keep.cons 0 rfl (Keep.cons 2 rfl (Keep.cons 4 rfl Keep.nil))) ?_
  refine at_false rfl ?_
  refine at_skip ?_
  refine at_seq ?_
  refine at_region ?_
  refine wl_read rfl rfl rfl (yl_move rfl rfl) ?_
  refine wl_read rfl rfl rfl (yl_nilCheck rfl rfl) ?_
  refine wl_read rfl rfl rfl (yl_fieldB rfl rfl Try.underlying55 rfl (by kernel_rfl) rfl) ?_
  refine wl_read rfl rfl rfl (yl_load rfl rfl Try.underlying3 rfl (CellAt.bk 0 rfl rfl)) ?_
  refine wl_read rfl rfl rfl (yl_assign rfl rfl) ?_
  refine wl_nil ?_
  refine at_keep (Keep.cons 0 rfl (Keep.cons 2 rfl (Keep.cons 4 rfl Keep.nil))) ?_
  refine at_retH (fun _ hw => (Jn.closes  (hw.front2.front2.front2))) Try.func23 (res1 rfl rfl) ?_
  exact ⟨rfl, rfl⟩
theorem len_nil (b : World) (H : List Asr) : Fn Try.prog 22 [.pointer none] b H (fun v H' => v = .int .i64 0 ∧ H = H') := by
  refine fn_of_at (by kernel_rfl) Try.func22 rfl Try.ntmps22 rfl rfl ?_
  refine at_seq ?_
  refine at_region ?_
  refine wl_read rfl rfl rfl (yl_assign rfl rfl) ?_
  refine wl_nil ?_
  refine at_keep (Keep.cons 0 rfl (Keep.cons 2 rfl Keep.nil)) ?_
  refine at_seq ?_
  refine at_seq ?_
  refine at_region ?_
  refine wl_read rfl rfl rfl (yl_move rfl rfl) ?_
  refine wl_read rfl rfl rfl (yl_eqPtr rfl rfl rfl (by kernel_rfl) rfl) ?_
  refine wl_nil ?_
  refine at_keep (Keep.cons 0 rfl (Keep.cons 2 rfl (Keep.cons 4 rfl Keep.nil))) ?_
  refine at_true rfl ?_
  refine at_seq ?_
  refine at_region ?_
  refine wl_read rfl rfl rfl (yl_assign rfl rfl) ?_
  refine wl_nil ?_
  refine at_keep (Keep.cons 0 rfl (Keep.cons 2 rfl (Keep.cons 4 rfl Keep.nil))) ?_
  refine at_ret Try.func22 (res1 rfl rfl) ?_
  exact ⟨rfl, rfl⟩
theorem flushed_nil (b : World) (H : List Asr) : Fn Try.prog 23 [.pointer none] b H (fun v H' => v = .int .i64 0 ∧ H = H') := by
  refine fn_of_at (by kernel_rfl) Try.func23 rfl Try.ntmps23 rfl rfl ?_
  refine at_seq ?_
  refine at_region ?_
  refine wl_read rfl rfl rfl (yl_assign rfl rfl) ?_
  refine wl_nil ?_
  refine at_keep (Keep.cons 0 rfl (Keep.cons 2 rfl Keep.nil)) ?_
  refine at_seq ?_
  refine at_seq ?_
  refine at_region ?_
  refine wl_read rfl rfl rfl (yl_move rfl rfl) ?_
  refine wl_read rfl rfl rfl (yl_eqPtr rfl rfl rfl (by kernel_rfl) rfl) ?_
  refine wl_nil ?_
  refine at_keep (Keep.cons 0 rfl (Keep.cons 2 rfl (Keep.cons 4 rfl Keep.nil))) ?_
  refine at_true rfl ?_
  refine at_seq ?_
  refine at_region ?_
  refine wl_read rfl rfl rfl (yl_assign rfl rfl) ?_
  refine wl_nil ?_
  refine at_keep (Keep.cons 0 rfl (Keep.cons 2 rfl (Keep.cons 4 rfl Keep.nil))) ?_
  refine at_ret Try.func23 (res1 rfl rfl) ?_
  exact ⟨rfl, rfl⟩
theorem bytesJ_nil (b : World) (H : List Asr) : Fn Try.prog 16 [.pointer none] b H (fun v H' => v = .slice none 0 0 ∧ H = H') := by
  refine fn_of_at (by kernel_rfl) Try.func16 rfl Try.ntmps16 rfl rfl ?_
  refine at_seq ?_
  refine at_region ?_
  refine wl_read rfl rfl rfl (yl_assign rfl rfl) ?_
  refine wl_nil ?_
  refine at_keep (Keep.cons 0 rfl (Keep.cons 2 rfl Keep.nil)) ?_
  refine at_seq ?_
  refine at_seq ?_
  refine at_region ?_
  refine wl_read rfl rfl rfl (yl_move rfl rfl) ?_
  refine wl_read rfl rfl rfl (yl_eqPtr rfl rfl rfl (by kernel_rfl) rfl) ?_
  refine wl_nil ?_
  refine at_keep (Keep.cons 0 rfl (Keep.cons 2 rfl (Keep.cons 4 rfl Keep.nil))) ?_
  refine at_true rfl ?_
  refine at_seq ?_
  refine at_region ?_
  refine wl_read rfl rfl rfl (yl_assign rfl rfl) ?_
  refine wl_nil ?_
  refine at_keep (Keep.cons 0 rfl (Keep.cons 2 rfl (Keep.cons 4 rfl Keep.nil))) ?_
  refine at_ret Try.func16 (res1 rfl rfl) ?_
  exact ⟨rfl, rfl⟩
theorem fork_nil (b : World) (H : List Asr) : Fn Try.prog 14 [.pointer none] b H (fun v H' => v = .pointer none ∧ H = H') := by
  refine fn_of_at (by kernel_rfl) Try.func14 rfl Try.ntmps14 rfl rfl ?_
  refine at_seq ?_
  refine at_region ?_
  refine wl_read rfl rfl rfl (yl_assign rfl rfl) ?_
  refine wl_nil ?_
  refine at_keep (Keep.cons 0 rfl (Keep.cons 2 rfl Keep.nil)) ?_
  refine at_seq ?_
  refine at_seq ?_
  refine at_region ?_
  refine wl_read rfl rfl rfl (yl_move rfl rfl) ?_
  refine wl_read rfl rfl rfl (yl_eqPtr rfl rfl rfl (by kernel_rfl) rfl) ?_
  refine wl_nil ?_
  refine at_keep (Keep.cons 0 rfl (Keep.cons 2 rfl (Keep.cons 4 rfl Keep.nil))) ?_
  refine at_true rfl ?_
  refine at_seq ?_
  refine at_region ?_
  refine wl_read rfl rfl rfl (yl_assign rfl rfl) ?_
  refine wl_nil ?_
  refine at_keep (Keep.cons 0 rfl (Keep.cons 2 rfl (Keep.cons 4 rfl Keep.nil))) ?_
  refine at_ret Try.func14 (res1 rfl rfl) ?_
  exact ⟨rfl, rfl⟩
theorem records_nil (b : World) (H : List Asr) : Fn Try.prog 19 [.pointer none] b H (fun v H' => v = .slice none 0 0 ∧ H = H') := by
  refine fn_of_at (by kernel_rfl) Try.func19 rfl Try.ntmps19 rfl rfl ?_
  refine at_seq ?_
  refine at_region ?_
  refine wl_read rfl rfl rfl (yl_assign rfl rfl) ?_
  refine wl_nil ?_
  refine at_keep (Keep.cons 0 rfl (Keep.cons 2 rfl Keep.nil)) ?_
  refine at_seq ?_
  refine at_seq ?_
  refine at_region ?_
  refine wl_read rfl rfl rfl (yl_move rfl rfl) ?_
  refine wl_read rfl rfl rfl (yl_eqPtr rfl rfl rfl (by kernel_rfl) rfl) ?_
  refine wl_nil ?_
  refine at_keep (Keep.cons 0 rfl (Keep.cons 2 rfl (Keep.cons 7 rfl Keep.nil))) ?_
  refine at_true rfl ?_
  refine at_seq ?_
  refine at_region ?_
  refine wl_read rfl rfl rfl (yl_assign rfl rfl) ?_
  refine wl_nil ?_
  refine at_keep (Keep.cons 0 rfl (Keep.cons 2 rfl (Keep.cons 7 rfl Keep.nil))) ?_
  refine at_ret Try.func19 (res1 rfl rfl) ?_
  exact ⟨rfl, rfl⟩
theorem crash_nil (k : Int) (b : World) (H : List Asr) : Fn Try.prog 20 [.pointer none, .int .i64 k] b H (fun v H' => v = .slice none 0 0 ∧ H = H') := by
  refine fn_of_at (by kernel_rfl) Try.func20 rfl Try.ntmps20 rfl rfl ?_
  refine at_seq ?_
  refine at_region ?_
  refine wl_read rfl rfl rfl (yl_assign rfl rfl) ?_
  refine wl_nil ?_
  refine at_keep (Keep.cons 0 rfl (Keep.cons 1 rfl (Keep.cons 4 rfl Keep.nil))) ?_
  refine at_seq ?_
  refine at_seq ?_
  refine at_region ?_
  refine wl_read rfl rfl rfl (yl_move rfl rfl) ?_
  refine wl_read rfl rfl rfl (yl_eqPtr rfl rfl rfl (by kernel_rfl) rfl) ?_
  refine wl_nil ?_
  refine at_keep (Keep.cons 0 rfl (Keep.cons 1 rfl (Keep.cons 4 rfl (Keep.cons 6 rfl Keep.nil)))) ?_
  refine at_true rfl ?_
  refine at_seq ?_
  refine at_region ?_
  refine wl_read rfl rfl rfl (yl_assign rfl rfl) ?_
  refine wl_nil ?_
  refine at_keep (Keep.cons 0 rfl (Keep.cons 1 rfl (Keep.cons 4 rfl (Keep.cons 6 rfl Keep.nil)))) ?_
  refine at_ret Try.func20 (res1 rfl rfl) ?_
  exact ⟨rfl, rfl⟩
theorem append_nil (A : Option Addr) (n c : Nat) (b : World) (H : List Asr) : Fn Try.prog 17 [.pointer none, .slice A n c] b H (fun v H' => v = .int .i64 1 ∧ H = H') := by
  refine fn_of_at (by kernel_rfl) Try.func17 rfl Try.ntmps17 rfl rfl ?_
  refine at_seq ?_
  refine at_region ?_
  refine wl_read rfl rfl rfl (yl_assign rfl rfl) ?_
  refine wl_nil ?_
  refine at_keep (Keep.cons 0 rfl (Keep.cons 1 rfl (Keep.cons 4 rfl Keep.nil))) ?_
  refine at_seq ?_
  refine at_seq ?_
  refine at_region ?_
  refine wl_read rfl rfl rfl (yl_move rfl rfl) ?_
  refine wl_read rfl rfl rfl (yl_eqPtr rfl rfl rfl (by kernel_rfl) rfl) ?_
  refine wl_read rfl rfl rfl (yl_move rfl rfl) ?_
  refine wl_skip rfl rfl rfl ?_
  refine wl_skip rfl rfl rfl ?_
  refine wl_skip rfl rfl rfl ?_
  refine wl_read rfl rfl rfl (yl_pickT rfl rfl rfl) ?_
  refine wl_read rfl rfl rfl (yl_move rfl rfl) ?_
  refine wl_skip rfl rfl rfl ?_
  refine wl_skip rfl rfl rfl ?_
  refine wl_skip rfl rfl rfl ?_
  refine wl_read rfl rfl rfl (yl_pickT rfl rfl rfl) ?_
  refine wl_nil ?_
  refine at_keep (Keep.cons 0 rfl (Keep.cons 1 rfl (Keep.cons 4 rfl (Keep.cons 18 rfl Keep.nil)))) ?_
  refine at_true rfl ?_
  refine at_seq ?_
  refine at_region ?_
  refine wl_read rfl rfl rfl (yl_assign rfl rfl) ?_
  refine wl_nil ?_
  refine at_keep (Keep.cons 0 rfl (Keep.cons 1 rfl (Keep.cons 4 rfl (Keep.cons 18 rfl Keep.nil)))) ?_
  refine at_ret Try.func17 (res1 rfl rfl) ?_
  exact ⟨rfl, rfl⟩
theorem flush_nil (b : World) (H : List Asr) : Fn Try.prog 18 [.pointer none] b H (fun v H' => v = .tuple #[] ∧ H = H') := by
  refine fn_of_at (by kernel_rfl) Try.func18 rfl Try.ntmps18 rfl rfl ?_
  refine at_seq ?_
  refine at_region ?_
  refine wl_read rfl rfl rfl (yl_move rfl rfl) ?_
  refine wl_read rfl rfl rfl (yl_nePtr rfl rfl rfl (by kernel_rfl) rfl) ?_
  refine wl_nil ?_
  refine at_keep (Keep.cons 0 rfl (Keep.cons 3 rfl Keep.nil)) ?_
  refine at_false rfl ?_
  refine at_skip ?_
  refine at_end Try.func18 (res0 rfl) ?_
  exact ⟨rfl, rfl⟩
theorem flush_fn (rs : List (List UInt8)) (fl g : Nat) (b : World) (H : List Asr) : Fn Try.prog 18 [.pointer (some ⟨g, 0, none⟩)] b (Jn g rs fl :: H) (fun v H' => v = .tuple #[] ∧ Jn g rs (jenc rs).length :: H = H') := by
  refine Jn.fn fun A c A2 c2 => ?_
  refine fn_of_at (by kernel_rfl) Try.func18 rfl Try.ntmps18 rfl rfl ?_
  refine at_seq ?_
  refine at_region ?_
  refine wl_read rfl rfl rfl (yl_move rfl rfl) ?_
  refine wl_read rfl rfl rfl (yl_nePtr rfl rfl rfl (by kernel_rfl) rfl) ?_
  refine wl_nil ?_
  refine at_keep (Keep.cons 0 rfl (Keep.cons 3 rfl Keep.nil)) ?_
  refine at_true rfl ?_
  refine at_region ?_
  refine wl_read rfl rfl rfl (yl_move rfl rfl) ?_
  refine wl_read rfl rfl rfl (yl_move rfl rfl) ?_
  refine wl_read rfl rfl rfl (yl_nilCheck rfl rfl) ?_
  refine wl_read rfl rfl rfl (yl_fieldB rfl rfl Try.underlying55 rfl (by kernel_rfl) rfl) ?_
  refine wl_read rfl rfl rfl (yl_load rfl rfl Try.underlying30 rfl (CellAt.bk 0 rfl rfl)) ?_
  refine wl_read rfl rfl rfl (yl_len rfl rfl Try.underlying30) ?_
  refine wl_read rfl rfl rfl (yl_nilCheck rfl rfl) ?_
  refine wl_read rfl rfl rfl (yl_fieldB rfl rfl Try.underlying55 rfl (by kernel_rfl) rfl) ?_
  refine wl_store rfl rfl (es_at0 (es_store 0 rfl rfl rfl rfl (by kernel_rfl) rfl rfl)) ?_
  refine wl_nil ?_
  refine at_keep (Keep.cons 0 rfl (Keep.cons 3 rfl Keep.nil)) ?_
  refine at_endH (fun _ hw => (Jn.closes  (hw.front2.front2.front2))) Try.func18 (res0 rfl) ?_
  exact ⟨rfl, rfl⟩
theorem bytesJ_fn (rs : List (List UInt8)) (fl g : Nat) (b : World) (H : List Asr) (hl : (jenc rs).length ≤ 100000000) : Fn Try.prog 16 [.pointer (some ⟨g, 0, none⟩)] b (Jn g rs fl :: H) (fun v H' => ∃ A' c', v = .slice A' (jenc rs).length c' ∧ H' = Sl A' c' 5 (jenc rs) :: Jn g rs fl :: H) := by
  refine Jn.fn fun A c A2 c2 => ?_
  refine fn_of_at (by kernel_rfl) Try.func16 rfl Try.ntmps16 rfl rfl ?_
  refine at_seq ?_
  refine at_region ?_
  refine wl_read rfl rfl rfl (yl_assign rfl rfl) ?_
  refine wl_nil ?_
  refine at_keep (Keep.cons 0 rfl (Keep.cons 2 rfl Keep.nil)) ?_
  refine at_seq ?_
  refine at_seq ?_
  refine at_region ?_
  refine wl_read rfl rfl rfl (yl_move rfl rfl) ?_
  refine wl_read rfl rfl rfl (yl_eqPtr rfl rfl rfl (by kernel_rfl) rfl) ?_
  refine wl_nil ?_
  refine at_keep (Keep.cons 0 rfl (Keep.cons 2 rfl (Keep.cons 4 rfl Keep.nil))) ?_
  refine at_false rfl ?_
  refine at_skip ?_
  refine at_seq ?_
  refine at_region ?_
  refine wl_read rfl rfl rfl (yl_move rfl rfl) ?_
  refine wl_read rfl rfl rfl (yl_nilCheck rfl rfl) ?_
  refine wl_read rfl rfl rfl (yl_fieldB rfl rfl Try.underlying55 rfl (by kernel_rfl) rfl) ?_
  refine wl_read rfl rfl rfl (yl_load rfl rfl Try.underlying30 rfl (CellAt.bk 0 rfl rfl)) ?_
  refine wl_call rfl rfl rfl (en_call rfl rfl) (clone_fn (jenc rs) A c _ _ (Rd.of_sl 1 rfl) hl) ?_
  rintro _ _ ⟨A1, c1, rfl, rfl⟩
  refine wl_read rfl rfl rfl (yl_assign rfl rfl) ?_
  refine wl_nil ?_
  refine at_keep (Keep.cons 0 rfl (Keep.cons 2 rfl (Keep.cons 4 rfl Keep.nil))) ?_
  refine at_retH (fun _ hw => (Jn.closes  (hw.front3.front3.front3)).front1) Try.func16 (res1 rfl rfl) ?_
  exact ⟨A1, c1, rfl, rfl⟩
theorem crash_fn (rs : List (List UInt8)) (fl g : Nat) (b : World) (H : List Asr) (k : Int) (hk : I64 k) (hfl : fl ≤ (jenc rs).length) (hl : (jenc rs).length ≤ 100000000) : Fn Try.prog 20 [.pointer (some ⟨g, 0, none⟩), .int .i64 k] b (Jn g rs fl :: H)
    (fun v H' => ∃ A' c', v = .slice A' ((jenc rs).take (cutN rs fl k)).length c' ∧ H' = Sl A' c' 5 ((jenc rs).take (cutN rs fl k)) :: Jn g rs fl :: H) := by
  refine Jn.fn fun A c A2 c2 => Fn.know (by kernel_rfl) (p := (jenc rs).length ≤ c) (fun w hw => hw.slCap 1 rfl) (fun hcap => ?_)
  have hcn := cutN_le rs fl k hfl
  have hce := cutN_eq rs fl k
  unfold I64 at hk
  refine fn_of_at (by kernel_rfl) Try.func20 rfl Try.ntmps20 rfl rfl ?_
  refine at_seq ?_
  refine at_region ?_
  refine wl_read rfl rfl rfl (yl_assign rfl rfl) ?_
  refine wl_nil ?_
  refine at_keep (Keep.cons 0 rfl (Keep.cons 1 rfl (Keep.cons 4 rfl Keep.nil))) ?_
  refine at_seq ?_
  refine at_seq ?_
  refine at_region ?_
  refine wl_read rfl rfl rfl (yl_move rfl rfl) ?_
  refine wl_read rfl rfl rfl (yl_eqPtr rfl rfl rfl (by kernel_rfl) rfl) ?_
  refine wl_nil ?_
  refine at_keep (Keep.cons 0 rfl (Keep.cons 1 rfl (Keep.cons 4 rfl (Keep.cons 6 rfl Keep.nil)))) ?_
  refine at_false rfl ?_
  refine at_skip ?_
  refine at_seq ?_
  refine at_draw0 (.fl 0 (.fl 1 (.fl 2 (.fl 3 (.fl 4 (.fl 5 (.fl 6 (.fl 7 (.fl 8 (.fl 9 (.fl 10 (.fl 11 (.fl 12 (.fl 13 (.fl 14 (.fl 15 (.fl 16 (.fl 17 (.fl 18 (.fl 19 (.fl 20 (.fl 21 (.fl 22 (.ef 23 (.fl 24 .nil))))))))))))))))))))))))) (by kernel_rfl) (by kernel_rfl) ?_
  refine wt_read rfl rfl rfl rfl (yl_move rfl rfl) ?_
  refine wt_read rfl rfl rfl rfl (yl_nilCheck rfl rfl) ?_
  refine wt_read rfl rfl rfl rfl (yl_fieldB rfl rfl Try.underlying55 rfl (by kernel_rfl) rfl) ?_
  refine wt_read rfl rfl rfl rfl (yl_load rfl rfl Try.underlying30 rfl (CellAt.bk 0 rfl rfl)) ?_
  refine wt_read rfl rfl rfl rfl (yl_move rfl rfl) ?_
  refine wt_read rfl rfl rfl rfl (yl_nilCheck rfl rfl) ?_
  refine wt_read rfl rfl rfl rfl (yl_fieldB rfl rfl Try.underlying55 rfl (by kernel_rfl) rfl) ?_
  refine wt_read rfl rfl rfl rfl (yl_load rfl rfl Try.underlying3 rfl (CellAt.bk 0 rfl rfl)) ?_
  refine wt_read rfl rfl rfl rfl (yl_move rfl rfl) ?_
  refine wt_read rfl rfl rfl rfl (yl_move rfl rfl) ?_
  refine wt_read rfl rfl rfl rfl (yl_nilCheck rfl rfl) ?_
  refine wt_read rfl rfl rfl rfl (yl_fieldB rfl rfl Try.underlying55 rfl (by kernel_rfl) rfl) ?_
  refine wt_read rfl rfl rfl rfl (yl_load rfl rfl Try.underlying30 rfl (CellAt.bk 0 rfl rfl)) ?_
  refine wt_read rfl rfl rfl rfl (yl_len rfl rfl Try.underlying30) ?_
  refine wt_read rfl rfl rfl rfl (yl_move rfl rfl) ?_
  refine wt_read rfl rfl rfl rfl (yl_nilCheck rfl rfl) ?_
  refine wt_read rfl rfl rfl rfl (yl_fieldB rfl rfl Try.underlying55 rfl (by kernel_rfl) rfl) ?_
  refine wt_read rfl rfl rfl rfl (yl_load rfl rfl Try.underlying3 rfl (CellAt.bk 0 rfl rfl)) ?_
  refine wt_read rfl rfl rfl rfl (yl_sub rfl rfl rfl (w64 (by omega) (by omega))) ?_
  refine wt_read rfl rfl rfl rfl (yl_min rfl rfl rfl) ?_
  refine wt_read rfl rfl rfl rfl (yl_max rfl rfl rfl) ?_
  refine wt_read rfl rfl rfl rfl (yl_add (r := ((cutN rs fl k : Nat) : Int)) rfl rfl rfl (by rw [hce, w64 (by omega) (by omega)])) ?_
  refine wt_read rfl rfl rfl rfl (yl_sliceH (xs := jenc rs) (j := cutN rs fl k) rfl rfl rfl rfl (by omega) hcap Try.underlying30 (by kernel_rfl) rfl) ?_
  refine wt_call rfl rfl rfl rfl (en_call rfl rfl) (clone_fn ((jenc rs).take (cutN rs fl k)) _ _ _ _ ((Rd.of_sl 1 rfl).take _) (by rw [List.length_take]; omega)) ?_
  rintro _ _ ⟨A1, c1, rfl, rfl⟩
  refine ⟨⟨[_], rfl⟩, ?_⟩
  refine wt_read rfl rfl rfl rfl (yl_assign rfl rfl) ?_
  refine wt_nil ?_
  refine at_keep (Keep.cons 0 rfl (Keep.cons 1 rfl (Keep.cons 4 rfl (Keep.cons 6 rfl Keep.nil)))) ?_
  refine at_retH (fun _ hw => (Jn.closes  (hw.front3.front3.front3)).front1) Try.func20 (res1 rfl rfl) ?_
  exact ⟨A1, c1, rfl, rfl⟩
theorem fork_fn (rs : List (List UInt8)) (fl g : Nat) (b : World) (H : List Asr) (hl : (jenc rs).length ≤ 100000000) (hr : rs.length ≤ 1000000) : Fn Try.prog 14 [.pointer (some ⟨g, 0, none⟩)] b (Jn g rs fl :: H) (fun v H' => ∃ g', v = .pointer (some ⟨g', 0, none⟩) ∧ H' = Jn g' rs fl :: Jn g rs fl :: H) := by
  refine Jn.fn fun A c A2 c2 => ?_
  have hsl := spans_len rs 0
  refine fn_of_at (by kernel_rfl) Try.func14 rfl Try.ntmps14 rfl rfl ?_
  refine at_seq ?_
  refine at_region ?_
  refine wl_read rfl rfl rfl (yl_assign rfl rfl) ?_
  refine wl_nil ?_
  refine at_keep (Keep.cons 0 rfl (Keep.cons 2 rfl Keep.nil)) ?_
  refine at_seq ?_
  refine at_seq ?_
  refine at_region ?_
  refine wl_read rfl rfl rfl (yl_move rfl rfl) ?_
  refine wl_read rfl rfl rfl (yl_eqPtr rfl rfl rfl (by kernel_rfl) rfl) ?_
  refine wl_nil ?_
  refine at_keep (Keep.cons 0 rfl (Keep.cons 2 rfl (Keep.cons 4 rfl Keep.nil))) ?_
  refine at_false rfl ?_
  refine at_skip ?_
  refine at_seq ?_
  refine at_draw0 (.fl 0 (.fl 1 (.fl 2 (.fl 3 (.fl 5 (.fl 6 (.fl 7 (.fl 8 (.fl 9 (.fl 10 (.fl 11 (.fl 12 (.ef 4 (.ef 13 (.fl 14 (.ef 15 (.fl 16 .nil))))))))))))))))) (by kernel_rfl) (by kernel_rfl) ?_
  refine wt_read rfl rfl rfl rfl (yl_move rfl rfl) ?_
  refine wt_read rfl rfl rfl rfl (yl_nilCheck rfl rfl) ?_
  refine wt_read rfl rfl rfl rfl (yl_fieldB rfl rfl Try.underlying55 rfl (by kernel_rfl) rfl) ?_
  refine wt_read rfl rfl rfl rfl (yl_load rfl rfl Try.underlying30 rfl (CellAt.bk 0 rfl rfl)) ?_
  refine wt_read rfl rfl rfl rfl (yl_move rfl rfl) ?_
  refine wt_read rfl rfl rfl rfl (yl_nilCheck rfl rfl) ?_
  refine wt_read rfl rfl rfl rfl (yl_fieldB rfl rfl Try.underlying55 rfl (by kernel_rfl) rfl) ?_
  refine wt_read rfl rfl rfl rfl (yl_load rfl rfl Try.underlying3 rfl (CellAt.bk 0 rfl rfl)) ?_
  refine wt_read rfl rfl rfl rfl (yl_move rfl rfl) ?_
  refine wt_read rfl rfl rfl rfl (yl_nilCheck rfl rfl) ?_
  refine wt_read rfl rfl rfl rfl (yl_fieldB rfl rfl Try.underlying55 rfl (by kernel_rfl) rfl) ?_
  refine wt_read rfl rfl rfl rfl (yl_load rfl rfl Try.underlying53 rfl (CellAt.bk 0 rfl rfl)) ?_
  refine wt_call rfl rfl rfl rfl (en_call rfl rfl) (clone_fn (jenc rs) A c _ _ (Rd.of_sl 1 rfl) hl) ?_
  rintro _ _ ⟨A1, c1, rfl, rfl⟩
  refine ⟨⟨[_], rfl⟩, ?_⟩
  refine wt_call rfl rfl rfl rfl (en_call rfl rfl) (cloneS_fn (spans 0 rs) A2 c2 _ _ (Rd.of_sl 3 rfl) (by omega)) ?_
  rintro _ _ ⟨A3, c3, rfl, rfl⟩
  refine ⟨⟨[_, _], rfl⟩, ?_⟩
  refine wt_read rfl rfl rfl rfl (yl_build (cs := [.slice A1 (jenc rs).length c1, .int .i64 fl, .slice A3 (spans 0 rs).length c3]) rfl rfl (fun _ => by kernel_rfl)) ?_
  refine wt_eff rfl rfl rfl rfl (ef_box rfl rfl rfl) ?_
  rintro _ _ ⟨gn, rfl, rfl⟩
  refine ⟨⟨[_, _, _], rfl⟩, ?_⟩
  refine wt_read rfl rfl rfl rfl (yl_assign rfl rfl) ?_
  refine wt_nil ?_
  refine at_keep (Keep.cons 0 rfl (Keep.cons 2 rfl (Keep.cons 4 rfl Keep.nil))) ?_
  refine at_retH (fun _ hw => (Jn.closes (rs := rs) (fl := fl) (Jn.closes (rs := rs) (fl := fl) (hw.front1.front2.front2.front5.front5.front5)).down3)) Try.func14 (res1 rfl rfl) ?_
  exact ⟨gn, rfl, rfl⟩
end Go.Proofs.Yteecjaiklpkhaaa

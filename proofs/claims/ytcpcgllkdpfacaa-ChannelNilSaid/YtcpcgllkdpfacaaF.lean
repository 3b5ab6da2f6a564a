/- Walks of the laws. -/
import Derived.Test.YtcpcgllkdpfacaaE
namespace Go.Proofs.Ytcpcgllkdpfacaa
open Go

def s0 : Sc := ⟨[], [], ⟨0, 0, 0, 0⟩, []⟩
theorem s0_ok : SOk s0 0 := ⟨rfl, by simp [s0], by simp [s0], by simp [s0], by simp [s0], by simp [s0], by simp [s0], by simp [s0], by simp [s0], by simp [s0], by simp [s0]⟩
theorem Holds.scene {b w : World} {H : List Asr} {g r : Nat} (hw : Holds b (Bk r 42 [.slice none 0 0, .int .i64 0, .int .i64 0, .int .i64 0, .int .i64 0] :: Chn 58 g [] ⟨0, 0, 0, 0⟩ :: H) w) :
    Holds b (Chn 58 g s0.p s0.k :: Chn 42 r s0.q s0.k :: Pool s0.pl :: H) w :=
  ((Chn.closes (ms := []) (k := ⟨0, 0, 0, 0⟩) (hw.nilSl (α := Msg) 33).front1).front1.poolNil (α := UInt8)).down2

theorem infoz5 : (Try.prog.info? 5).map (fun i => (i.zero, i.size)) = some (some (.int .u8 0), Enc.size UInt8) := by kernel_rfl
theorem byt5 : ∀ i, Try.prog.info? 5 = some i → i.bytes ≤ 100 := by
  intro i hi
  have h : (Try.prog.info? 5).map (fun i => i.bytes) = some 1 := by kernel_rfl
  rw [hi] at h
  simp at h; omega

theorem law5 (l : List Raw) (A : Option Addr) (c : Nat) (b : World) (H : List Asr) (hR : Rd H A l) (hE : ∀ m, m ∈ l → Rd H m.A m.bs) (hI : ∀ m, m ∈ l → I64 m.i) : Fn Try.prog 5 [.slice A l.length c] b H (fun v H' => v = .bool true ∧ H = H') := by
  refine fn_of_at (by kernel_rfl) Try.func5 rfl Try.ntmps5 rfl rfl ?_
  refine at_seq ?_
  refine at_region ?_
  refine wl_read rfl rfl rfl (yl_assign rfl rfl) ?_
  refine wl_nil ?_
  refine at_keep (Keep.cons 0 rfl (Keep.cons 2 rfl Keep.nil)) ?_
  refine at_seq ?_
  refine at_region ?_
  refine wl_call rfl rfl rfl (en_call rfl rfl) (new_fn _ _) ?_
  rintro _ _ ⟨g, rfl, rfl⟩
  refine wl_read rfl rfl rfl (yl_build (cs := [.slice none 0 0, .int .i64 0, .int .i64 0, .int .i64 0, .int .i64 0]) rfl rfl (fun _ => by kernel_rfl)) ?_
  refine wl_eff rfl rfl rfl (ef_box rfl rfl rfl) ?_
  rintro _ _ ⟨r, rfl, rfl⟩
  refine wl_read rfl rfl rfl (yl_assign rfl rfl) ?_
  refine wl_read rfl rfl rfl (yl_assign rfl rfl) ?_
  refine wl_nil ?_
  refine at_keep (Keep.cons 0 rfl (Keep.cons 2 rfl (Keep.cons 3 rfl (Keep.cons 4 rfl Keep.nil)))) ?_
  refine at_seq ?_
  refine at_seq ?_
  refine at_heap (fun _ hw => hw.scene) ?_
  refine at_region ?_
  refine wl_read rfl rfl rfl (yl_assign rfl rfl) ?_
  refine wl_nil ?_
  refine at_keep (Keep.cons 0 rfl (Keep.cons 2 rfl (Keep.cons 3 rfl (Keep.cons 4 rfl (Keep.cons 5 rfl Keep.nil))))) ?_
  refine at_block ?_
  refine at_keep (L' := (fun (j : Nat) (s : Sc) => [(0, .slice A l.length c), (3, .pointer (some ⟨g, 0, none⟩)), (4, .pointer (some ⟨r, 0, none⟩)), (5, .int .i64 (j : Int))]) 0 s0) (Keep.consEq 0 rfl rfl (Keep.consEq 3 rfl rfl (Keep.consEq 4 rfl rfl (Keep.consEq 5 rfl rfl Keep.nil)))) ?_
  refine at_loop2 (fun (j : Nat) (s : Sc) => j ≤ 40 ∧ SOk s j) (fun (j : Nat) (s : Sc) => [(0, .slice A l.length c), (3, .pointer (some ⟨g, 0, none⟩)), (4, .pointer (some ⟨r, 0, none⟩)), (5, .int .i64 (j : Int))]) (fun (j : Nat) (s : Sc) => Chn 58 g s.p s.k :: Chn 42 r s.q s.k :: Pool s.pl :: H) (fun (j : Nat) (s : Sc) => l.length - j) 0 s0 ⟨by omega, s0_ok⟩ ?_
  intro j s hI0 ih
  obtain ⟨hI1, hs⟩ := hI0
  refine at_seq ?_
  refine at_seq ?_
  refine at_region ?_
  refine wl_read rfl rfl rfl (yl_move rfl rfl) ?_
  refine wl_read rfl rfl rfl (yl_move rfl rfl) ?_
  refine wl_read rfl rfl rfl (yl_len rfl rfl Try.underlying38) ?_
  refine wl_split rfl rfl rfl (yp_lss rfl rfl rfl) ?_ ?_
  · intro h3_3
    refine wl_read rfl rfl rfl (yl_move rfl rfl) ?_
    refine wl_read rfl rfl rfl (yl_move rfl rfl) ?_
    refine wl_split rfl rfl rfl (yp_lss rfl rfl rfl) ?_ ?_
    · intro h3_6
      refine wl_read rfl rfl rfl (yl_pickT rfl rfl rfl) ?_
      refine wl_nil ?_
      refine at_keep (Keep.cons 0 rfl (Keep.cons 3 rfl (Keep.cons 4 rfl (Keep.cons 5 rfl (Keep.cons 16 rfl Keep.nil))))) ?_
      refine at_true rfl ?_
      refine at_skip ?_
      refine at_seq ?_
      refine at_block ?_
      refine at_seq ?_
      have hj1 : j < l.length := by omega
      refine at_region ?_
      refine wl_read rfl rfl rfl (yl_move rfl rfl) ?_
      refine wl_read rfl rfl rfl (yl_move rfl rfl) ?_
      refine wl_read rfl rfl rfl (yl_move rfl rfl) ?_
      refine wl_read rfl rfl rfl (yl_move rfl rfl) ?_
      refine wl_read rfl rfl rfl (yl_index rfl rfl rfl (((hR.cons _).cons _).cons _) (at_some hj1) rfl rfl Try.underlying38 (by kernel_rfl) rfl) ?_
      refine wl_read rfl rfl rfl (yl_loadRow rfl rfl (((hR.cons _).cons _).cons _) (at_some hj1) Try.underlying45 rfl (by kernel_rfl) rfl) ?_
      refine wl_call rfl rfl rfl (en_call rfl rfl) (step_fn s j g r (at_ l j) _ _ hs (by omega) (hE _ (at_in hj1)) (hI _ (at_in hj1))) ?_
      rintro _ _ ⟨rfl, s', hs', hsub, rfl⟩
      refine wl_read rfl rfl rfl (yl_notT rfl rfl) ?_
      refine wl_nil ?_
      refine at_keep (Keep.cons 0 rfl (Keep.cons 3 rfl (Keep.cons 4 rfl (Keep.cons 5 rfl (Keep.cons 16 rfl (Keep.cons 26 rfl Keep.nil)))))) ?_
      refine at_false rfl ?_
      refine at_skip ?_
      refine at_inBlock ?_
      refine at_region ?_
      refine wl_read rfl rfl rfl (yl_move rfl rfl) ?_
      refine wl_read rfl rfl rfl (yl_add rfl rfl rfl (w64 (by omega) (by omega))) ?_
      refine wl_read rfl rfl rfl (yl_assign rfl rfl) ?_
      refine wl_nil ?_
      refine at_keep (Keep.cons 0 rfl (Keep.cons 3 rfl (Keep.cons 4 rfl (Keep.cons 5 rfl (Keep.cons 16 rfl (Keep.cons 26 rfl Keep.nil)))))) ?_
      exact at_keep (L' := (fun (j : Nat) (s : Sc) => [(0, .slice A l.length c), (3, .pointer (some ⟨g, 0, none⟩)), (4, .pointer (some ⟨r, 0, none⟩)), (5, .int .i64 (j : Int))]) (j + 1) s') (Keep.consEq 0 rfl rfl (Keep.consEq 3 rfl rfl (Keep.consEq 4 rfl rfl (Keep.consEq 5 rfl rfl Keep.nil)))) (ih (j + 1) s' ⟨by omega, hs'⟩ (by omega))
    · intro h3_6
      refine wl_read rfl rfl rfl (yl_pickT rfl rfl rfl) ?_
      refine wl_nil ?_
      refine at_keep (Keep.cons 0 rfl (Keep.cons 3 rfl (Keep.cons 4 rfl (Keep.cons 5 rfl (Keep.cons 16 rfl Keep.nil))))) ?_
      refine at_false rfl ?_
      refine at_exit rfl ?_
      refine at_seq ?_
      refine at_region ?_
      refine wl_call rfl rfl rfl (en_call rfl rfl) (awake_fn _ _) ?_
      rintro _ _ ⟨rfl, rfl⟩
      refine wl_read rfl rfl rfl (yl_move rfl rfl) ?_
      refine wl_read rfl rfl rfl (yl_move rfl rfl) ?_
      refine wl_read rfl rfl rfl (yl_move rfl rfl) ?_
      refine wl_call rfl rfl rfl (en_call rfl rfl) (same_fn s j g r _ _ hs (by omega)) ?_
      rintro _ _ ⟨rfl, rfl⟩
      refine wl_read rfl rfl rfl (yl_pickT rfl rfl rfl) ?_
      refine wl_read rfl rfl rfl (yl_assign rfl rfl) ?_
      refine wl_nil ?_
      refine at_keep (Keep.cons 0 rfl (Keep.cons 2 rfl (Keep.cons 3 rfl (Keep.cons 4 rfl (Keep.cons 5 rfl (Keep.cons 16 rfl Keep.nil)))))) ?_
      refine at_retH (fun _ hw => hw.tail.tail.tail) Try.func5 (res1 rfl rfl) ?_
      exact ⟨rfl, rfl⟩
  · intro h3_3
    refine wl_read rfl rfl rfl (yl_move rfl rfl) ?_
    refine wl_skip rfl rfl rfl ?_
    refine wl_skip rfl rfl rfl ?_
    refine wl_read rfl rfl rfl (yl_pickF rfl rfl rfl) ?_
    refine wl_nil ?_
    refine at_keep (Keep.cons 0 rfl (Keep.cons 3 rfl (Keep.cons 4 rfl (Keep.cons 5 rfl (Keep.cons 16 rfl Keep.nil))))) ?_
    refine at_false rfl ?_
    refine at_exit rfl ?_
    refine at_seq ?_
    refine at_region ?_
    refine wl_call rfl rfl rfl (en_call rfl rfl) (awake_fn _ _) ?_
    rintro _ _ ⟨rfl, rfl⟩
    refine wl_read rfl rfl rfl (yl_move rfl rfl) ?_
    refine wl_read rfl rfl rfl (yl_move rfl rfl) ?_
    refine wl_read rfl rfl rfl (yl_move rfl rfl) ?_
    refine wl_call rfl rfl rfl (en_call rfl rfl) (same_fn s j g r _ _ hs (by omega)) ?_
    rintro _ _ ⟨rfl, rfl⟩
    refine wl_read rfl rfl rfl (yl_pickT rfl rfl rfl) ?_
    refine wl_read rfl rfl rfl (yl_assign rfl rfl) ?_
    refine wl_nil ?_
    refine at_keep (Keep.cons 0 rfl (Keep.cons 2 rfl (Keep.cons 3 rfl (Keep.cons 4 rfl (Keep.cons 5 rfl (Keep.cons 16 rfl Keep.nil)))))) ?_
    refine at_retH (fun _ hw => hw.tail.tail.tail) Try.func5 (res1 rfl rfl) ?_
    exact ⟨rfl, rfl⟩
theorem law6 (l : List Raw) (A : Option Addr) (c : Nat) (b : World) (H : List Asr) (hR : Rd H A l) (hE : ∀ m, m ∈ l → Rd H m.A m.bs) (hI : ∀ m, m ∈ l → I64 m.i) : Fn Try.prog 6 [.slice A l.length c] b H (fun v H' => v = .bool true ∧ H = H') := by
  refine fn_of_at (by kernel_rfl) Try.func6 rfl Try.ntmps6 rfl rfl ?_
  refine at_seq ?_
  refine at_region ?_
  refine wl_read rfl rfl rfl (yl_assign rfl rfl) ?_
  refine wl_nil ?_
  refine at_keep (Keep.cons 0 rfl (Keep.cons 2 rfl Keep.nil)) ?_
  refine at_seq ?_
  refine at_region ?_
  refine wl_call rfl rfl rfl (en_call rfl rfl) (new_fn _ _) ?_
  rintro _ _ ⟨g, rfl, rfl⟩
  refine wl_read rfl rfl rfl (yl_build (cs := [.slice none 0 0, .int .i64 0, .int .i64 0, .int .i64 0, .int .i64 0]) rfl rfl (fun _ => by kernel_rfl)) ?_
  refine wl_eff rfl rfl rfl (ef_box rfl rfl rfl) ?_
  rintro _ _ ⟨r, rfl, rfl⟩
  refine wl_read rfl rfl rfl (yl_assign rfl rfl) ?_
  refine wl_read rfl rfl rfl (yl_assign rfl rfl) ?_
  refine wl_nil ?_
  refine at_keep (Keep.cons 0 rfl (Keep.cons 2 rfl (Keep.cons 3 rfl (Keep.cons 4 rfl Keep.nil)))) ?_
  refine at_seq ?_
  refine at_seq ?_
  refine at_heap (fun _ hw => hw.scene) ?_
  refine at_region ?_
  refine wl_read rfl rfl rfl (yl_assign rfl rfl) ?_
  refine wl_nil ?_
  refine at_keep (Keep.cons 0 rfl (Keep.cons 2 rfl (Keep.cons 3 rfl (Keep.cons 4 rfl (Keep.cons 5 rfl Keep.nil))))) ?_
  refine at_block ?_
  refine at_keep (L' := (fun (j : Nat) (s : Sc) => [(0, .slice A l.length c), (3, .pointer (some ⟨g, 0, none⟩)), (4, .pointer (some ⟨r, 0, none⟩)), (5, .int .i64 (j : Int))]) 0 s0) (Keep.consEq 0 rfl rfl (Keep.consEq 3 rfl rfl (Keep.consEq 4 rfl rfl (Keep.consEq 5 rfl rfl Keep.nil)))) ?_
  refine at_loop2 (fun (j : Nat) (s : Sc) => j ≤ 40 ∧ SOk s j) (fun (j : Nat) (s : Sc) => [(0, .slice A l.length c), (3, .pointer (some ⟨g, 0, none⟩)), (4, .pointer (some ⟨r, 0, none⟩)), (5, .int .i64 (j : Int))]) (fun (j : Nat) (s : Sc) => Chn 58 g s.p s.k :: Chn 42 r s.q s.k :: Pool s.pl :: H) (fun (j : Nat) (s : Sc) => l.length - j) 0 s0 ⟨by omega, s0_ok⟩ ?_
  intro j s hI0 ih
  obtain ⟨hI1, hs⟩ := hI0
  refine at_seq ?_
  refine at_seq ?_
  refine at_region ?_
  refine wl_read rfl rfl rfl (yl_move rfl rfl) ?_
  refine wl_read rfl rfl rfl (yl_move rfl rfl) ?_
  refine wl_read rfl rfl rfl (yl_len rfl rfl Try.underlying38) ?_
  refine wl_split rfl rfl rfl (yp_lss rfl rfl rfl) ?_ ?_
  · intro h3_3
    refine wl_read rfl rfl rfl (yl_move rfl rfl) ?_
    refine wl_read rfl rfl rfl (yl_move rfl rfl) ?_
    refine wl_split rfl rfl rfl (yp_lss rfl rfl rfl) ?_ ?_
    · intro h3_6
      refine wl_read rfl rfl rfl (yl_pickT rfl rfl rfl) ?_
      refine wl_nil ?_
      refine at_keep (Keep.cons 0 rfl (Keep.cons 3 rfl (Keep.cons 4 rfl (Keep.cons 5 rfl (Keep.cons 20 rfl Keep.nil))))) ?_
      refine at_true rfl ?_
      refine at_skip ?_
      refine at_seq ?_
      refine at_block ?_
      refine at_seq ?_
      have hj1 : j < l.length := by omega
      refine at_region ?_
      refine wl_read rfl rfl rfl (yl_move rfl rfl) ?_
      refine wl_read rfl rfl rfl (yl_move rfl rfl) ?_
      refine wl_read rfl rfl rfl (yl_move rfl rfl) ?_
      refine wl_read rfl rfl rfl (yl_move rfl rfl) ?_
      refine wl_read rfl rfl rfl (yl_index rfl rfl rfl (((hR.cons _).cons _).cons _) (at_some hj1) rfl rfl Try.underlying38 (by kernel_rfl) rfl) ?_
      refine wl_read rfl rfl rfl (yl_loadRow rfl rfl (((hR.cons _).cons _).cons _) (at_some hj1) Try.underlying45 rfl (by kernel_rfl) rfl) ?_
      refine wl_call rfl rfl rfl (en_call rfl rfl) (step_fn s j g r (at_ l j) _ _ hs (by omega) (hE _ (at_in hj1)) (hI _ (at_in hj1))) ?_
      rintro _ _ ⟨rfl, s', hs', hsub, rfl⟩
      refine wl_nil ?_
      refine at_keep (Keep.cons 0 rfl (Keep.cons 3 rfl (Keep.cons 4 rfl (Keep.cons 5 rfl (Keep.cons 20 rfl Keep.nil))))) ?_
      refine at_seq ?_
      have hks := hs'.ks
      have hkd := hs'.kd
      have hkl := hs'.kl
      have hkr := hs'.kr
      have hcn := hs'.cons
      have hle := hs'.len
      refine at_region ?_
      refine wl_read rfl rfl rfl (yl_move rfl rfl) ?_
      refine wl_call rfl rfl rfl (en_call rfl rfl) (counts_fn s'.p s'.k g _ _) ?_
      rintro _ _ ⟨rfl, rfl⟩
      refine wl_read rfl rfl rfl (yl_move rfl rfl) ?_
      refine wl_read rfl rfl rfl (yl_extract rfl rfl rfl) ?_
      refine wl_read rfl rfl rfl (yl_extract rfl rfl rfl) ?_
      refine wl_read rfl rfl rfl (yl_extract rfl rfl rfl) ?_
      refine wl_read rfl rfl rfl (yl_extract rfl rfl rfl) ?_
      refine wl_read rfl rfl rfl (yl_assign rfl rfl) ?_
      refine wl_read rfl rfl rfl (yl_assign rfl rfl) ?_
      refine wl_read rfl rfl rfl (yl_assign rfl rfl) ?_
      refine wl_read rfl rfl rfl (yl_assign rfl rfl) ?_
      refine wl_nil ?_
      refine at_keep (Keep.cons 0 rfl (Keep.cons 3 rfl (Keep.cons 4 rfl (Keep.cons 5 rfl (Keep.cons 6 rfl (Keep.cons 7 rfl (Keep.cons 8 rfl (Keep.cons 9 rfl (Keep.cons 20 rfl Keep.nil))))))))) ?_
      refine at_seq ?_
      refine at_region ?_
      refine wl_read rfl rfl rfl (yl_move rfl rfl) ?_
      refine wl_read rfl rfl rfl (yl_move rfl rfl) ?_
      refine wl_read rfl rfl rfl (yl_add rfl rfl rfl (w64 (by omega) (by omega))) ?_
      refine wl_read rfl rfl rfl (yl_move rfl rfl) ?_
      refine wl_read rfl rfl rfl (yl_move rfl rfl) ?_
      refine wl_read rfl rfl rfl (yl_add rfl rfl rfl (w64 (by omega) (by omega))) ?_
      refine wl_read rfl rfl rfl (yl_move rfl rfl) ?_
      refine wl_call rfl rfl rfl (en_call rfl rfl) (len_fn s'.p s'.k g _ _) ?_
      rintro _ _ ⟨rfl, rfl⟩
      refine wl_read rfl rfl rfl (yl_add rfl rfl rfl (w64 (by omega) (by omega))) ?_
      refine wl_read rfl rfl rfl ((yp_neq rfl rfl rfl).2 (by omega)) ?_
      refine wl_nil ?_
      refine at_keep (Keep.cons 0 rfl (Keep.cons 3 rfl (Keep.cons 4 rfl (Keep.cons 5 rfl (Keep.cons 6 rfl (Keep.cons 7 rfl (Keep.cons 8 rfl (Keep.cons 9 rfl (Keep.cons 20 rfl (Keep.cons 46 rfl Keep.nil)))))))))) ?_
      refine at_false rfl ?_
      refine at_skip ?_
      refine at_inBlock ?_
      refine at_region ?_
      refine wl_read rfl rfl rfl (yl_move rfl rfl) ?_
      refine wl_read rfl rfl rfl (yl_add rfl rfl rfl (w64 (by omega) (by omega))) ?_
      refine wl_read rfl rfl rfl (yl_assign rfl rfl) ?_
      refine wl_nil ?_
      refine at_keep (Keep.cons 0 rfl (Keep.cons 3 rfl (Keep.cons 4 rfl (Keep.cons 5 rfl (Keep.cons 6 rfl (Keep.cons 7 rfl (Keep.cons 8 rfl (Keep.cons 9 rfl (Keep.cons 20 rfl (Keep.cons 46 rfl Keep.nil)))))))))) ?_
      exact at_keep (L' := (fun (j : Nat) (s : Sc) => [(0, .slice A l.length c), (3, .pointer (some ⟨g, 0, none⟩)), (4, .pointer (some ⟨r, 0, none⟩)), (5, .int .i64 (j : Int))]) (j + 1) s') (Keep.consEq 0 rfl rfl (Keep.consEq 3 rfl rfl (Keep.consEq 4 rfl rfl (Keep.consEq 5 rfl rfl Keep.nil)))) (ih (j + 1) s' ⟨by omega, hs'⟩ (by omega))
    · intro h3_6
      refine wl_read rfl rfl rfl (yl_pickT rfl rfl rfl) ?_
      refine wl_nil ?_
      refine at_keep (Keep.cons 0 rfl (Keep.cons 3 rfl (Keep.cons 4 rfl (Keep.cons 5 rfl (Keep.cons 20 rfl Keep.nil))))) ?_
      refine at_false rfl ?_
      refine at_exit rfl ?_
      refine at_seq ?_
      refine at_region ?_
      refine wl_call rfl rfl rfl (en_call rfl rfl) (awake_fn _ _) ?_
      rintro _ _ ⟨rfl, rfl⟩
      refine wl_read rfl rfl rfl (yl_assign rfl rfl) ?_
      refine wl_nil ?_
      refine at_keep (Keep.cons 0 rfl (Keep.cons 2 rfl (Keep.cons 3 rfl (Keep.cons 4 rfl (Keep.cons 5 rfl (Keep.cons 20 rfl Keep.nil)))))) ?_
      refine at_retH (fun _ hw => hw.tail.tail.tail) Try.func6 (res1 rfl rfl) ?_
      exact ⟨rfl, rfl⟩
  · intro h3_3
    refine wl_read rfl rfl rfl (yl_move rfl rfl) ?_
    refine wl_skip rfl rfl rfl ?_
    refine wl_skip rfl rfl rfl ?_
    refine wl_read rfl rfl rfl (yl_pickF rfl rfl rfl) ?_
    refine wl_nil ?_
    refine at_keep (Keep.cons 0 rfl (Keep.cons 3 rfl (Keep.cons 4 rfl (Keep.cons 5 rfl (Keep.cons 20 rfl Keep.nil))))) ?_
    refine at_false rfl ?_
    refine at_exit rfl ?_
    refine at_seq ?_
    refine at_region ?_
    refine wl_call rfl rfl rfl (en_call rfl rfl) (awake_fn _ _) ?_
    rintro _ _ ⟨rfl, rfl⟩
    refine wl_read rfl rfl rfl (yl_assign rfl rfl) ?_
    refine wl_nil ?_
    refine at_keep (Keep.cons 0 rfl (Keep.cons 2 rfl (Keep.cons 3 rfl (Keep.cons 4 rfl (Keep.cons 5 rfl (Keep.cons 20 rfl Keep.nil)))))) ?_
    refine at_retH (fun _ hw => hw.tail.tail.tail) Try.func6 (res1 rfl rfl) ?_
    exact ⟨rfl, rfl⟩
theorem law3 (f t z : Int) (b : World) (H : List Asr) : Fn Try.prog 3 [.int .i64 f, .int .i64 t, .int .i64 z] b H (fun v H' => v = .bool true ∧ H = H') := by
  have hf := md_bd f 10 (by decide)
  have ht := md_bd t 10 (by decide)
  have hz := md_bd z 2000 (by decide)
  obtain ⟨n, hn⟩ : ∃ n : Nat, md z 2000 = (n : Int) := ⟨_, (Int.toNat_of_nonneg hz.1).symm⟩
  have hln : (List.replicate n (0 : UInt8)).length = n := List.length_replicate
  rcases Classical.em (okS (md f 10 - 2) (md t 10 - 2) (List.replicate n (0 : UInt8))) with hs | hs
  · have hs2 := hs
    unfold okS at hs2
    rw [hln] at hs2
    refine fn_of_at (by kernel_rfl) Try.func3 rfl Try.ntmps3 rfl rfl ?_
    refine at_seq ?_
    refine at_region ?_
    refine wl_read rfl rfl rfl (yl_assign rfl rfl) ?_
    refine wl_nil ?_
    refine at_keep (Keep.cons 0 rfl (Keep.cons 1 rfl (Keep.cons 2 rfl (Keep.cons 6 rfl Keep.nil)))) ?_
    refine at_seq ?_
    refine at_region ?_
    refine wl_call rfl rfl rfl (en_call rfl rfl) (new_fn _ _) ?_
    rintro _ _ ⟨g, rfl, rfl⟩
    refine wl_read rfl rfl rfl (yl_assign rfl rfl) ?_
    refine wl_nil ?_
    refine at_keep (Keep.cons 0 rfl (Keep.cons 1 rfl (Keep.cons 2 rfl (Keep.cons 6 rfl (Keep.cons 7 rfl Keep.nil))))) ?_
    refine at_seq ?_
    refine at_region ?_
    refine wl_read rfl rfl rfl (yl_move rfl rfl) ?_
    refine wl_call rfl rfl rfl (en_call rfl rfl) (mod_fn _ _ _ _ (by decide) (by decide)) ?_
    rintro _ _ ⟨rfl, rfl⟩
    refine wl_read rfl rfl rfl (yl_assign rfl rfl) ?_
    refine wl_nil ?_
    refine at_keep (Keep.cons 0 rfl (Keep.cons 1 rfl (Keep.cons 2 rfl (Keep.cons 6 rfl (Keep.cons 7 rfl (Keep.cons 8 rfl Keep.nil)))))) ?_
    refine at_seq ?_
    refine at_region ?_
    refine wl_read rfl rfl rfl (yl_move rfl rfl) ?_
    refine wl_call rfl rfl rfl (en_call rfl rfl) (mod_fn _ _ _ _ (by decide) (by decide)) ?_
    rintro _ _ ⟨rfl, rfl⟩
    refine wl_read rfl rfl rfl (yl_sub rfl rfl rfl (w64 (by omega) (by omega))) ?_
    refine wl_read rfl rfl rfl (yl_move rfl rfl) ?_
    refine wl_call rfl rfl rfl (en_call rfl rfl) (mod_fn _ _ _ _ (by decide) (by decide)) ?_
    rintro _ _ ⟨rfl, rfl⟩
    refine wl_read rfl rfl rfl (yl_sub rfl rfl rfl (w64 (by omega) (by omega))) ?_
    refine wl_read rfl rfl rfl (yl_assign rfl rfl) ?_
    refine wl_read rfl rfl rfl (yl_assign rfl rfl) ?_
    refine wl_nil ?_
    refine at_keep (Keep.cons 0 rfl (Keep.cons 1 rfl (Keep.cons 2 rfl (Keep.cons 6 rfl (Keep.cons 7 rfl (Keep.cons 8 rfl (Keep.cons 9 rfl (Keep.cons 10 rfl Keep.nil)))))))) ?_
    refine at_seq ?_
    rw [hn]
    refine at_region ?_
    refine wl_read rfl rfl rfl (yl_move rfl rfl) ?_
    refine wl_read rfl rfl rfl ((yp_geq rfl rfl rfl).1 (by omega)) ?_
    refine wl_read rfl rfl rfl (yl_move rfl rfl) ?_
    refine wl_read rfl rfl rfl (yl_move rfl rfl) ?_
    refine wl_read rfl rfl rfl ((yp_lss rfl rfl rfl).1 (by omega)) ?_
    refine wl_read rfl rfl rfl (yl_pickT rfl rfl rfl) ?_
    refine wl_read rfl rfl rfl (yl_move rfl rfl) ?_
    refine wl_read rfl rfl rfl (yl_move rfl rfl) ?_
    refine wl_read rfl rfl rfl ((yp_geq rfl rfl rfl).1 (by omega)) ?_
    refine wl_read rfl rfl rfl (yl_pickT rfl rfl rfl) ?_
    refine wl_read rfl rfl rfl (yl_move rfl rfl) ?_
    refine wl_read rfl rfl rfl (yl_move rfl rfl) ?_
    refine wl_read rfl rfl rfl ((yp_lss rfl rfl rfl).1 (by omega)) ?_
    refine wl_read rfl rfl rfl (yl_pickT rfl rfl rfl) ?_
    refine wl_read rfl rfl rfl (yl_move rfl rfl) ?_
    refine wl_read rfl rfl rfl (yl_move rfl rfl) ?_
    refine wl_read rfl rfl rfl (yl_move rfl rfl) ?_
    refine wl_read rfl rfl rfl ((yp_neq rfl rfl rfl).1 (by omega)) ?_
    refine wl_read rfl rfl rfl (yl_pickT rfl rfl rfl) ?_
    refine wl_read rfl rfl rfl (yl_move rfl rfl) ?_
    refine wl_read rfl rfl rfl (yl_move rfl rfl) ?_
    refine wl_read rfl rfl rfl ((yp_geq rfl rfl rfl).1 (by omega)) ?_
    refine wl_read rfl rfl rfl (yl_pickT rfl rfl rfl) ?_
    refine wl_read rfl rfl rfl (yl_move rfl rfl) ?_
    refine wl_read rfl rfl rfl (yl_move rfl rfl) ?_
    refine wl_read rfl rfl rfl ((yp_leq rfl rfl rfl).1 (by omega)) ?_
    refine wl_read rfl rfl rfl (yl_pickT rfl rfl rfl) ?_
    refine wl_read rfl rfl rfl (yl_assign rfl rfl) ?_
    refine wl_nil ?_
    refine at_keep (Keep.cons 0 rfl (Keep.cons 1 rfl (Keep.cons 2 rfl (Keep.cons 6 rfl (Keep.cons 7 rfl (Keep.cons 8 rfl (Keep.cons 9 rfl (Keep.cons 10 rfl (Keep.cons 11 rfl Keep.nil))))))))) ?_
    refine at_seq ?_
    refine at_region ?_
    refine wl_read rfl rfl rfl (yl_move rfl rfl) ?_
    refine wl_read rfl rfl rfl (yl_move rfl rfl) ?_
    refine wl_read rfl rfl rfl (yl_move rfl rfl) ?_
    refine wl_read rfl rfl rfl (yl_move rfl rfl) ?_
    refine wl_eff rfl rfl rfl (ef_make (x := (0 : UInt8)) (List.replicate n (0 : UInt8)) rfl rfl rfl rfl Try.underlying27 infoz5 rfl rfl rfl (by omega) byt5) ?_
    rintro _ _ ⟨A5, rfl, rfl⟩
    refine wl_heap (fun _ hw => hw.front1) ?_
    refine wl_call rfl rfl rfl (en_call rfl rfl) (send_fn [] ⟨0, 0, 0, 0⟩ g _ _ (md f 10 - 2) (md t 10 - 2) (List.replicate n (0 : UInt8)) _ _ hs (by simp) (by decide) (Rd.of_sl 0 rfl)) ?_
    rintro _ _ ⟨A6, c6, rfl, rfl⟩
    refine wl_read rfl rfl rfl (yl_assign rfl rfl) ?_
    refine wl_nil ?_
    refine at_keep (Keep.cons 0 rfl (Keep.cons 1 rfl (Keep.cons 2 rfl (Keep.cons 6 rfl (Keep.cons 7 rfl (Keep.cons 8 rfl (Keep.cons 9 rfl (Keep.cons 10 rfl (Keep.cons 11 rfl (Keep.cons 12 rfl Keep.nil)))))))))) ?_
    refine at_seq ?_
    refine at_seq ?_
    refine at_region ?_
    refine wl_read rfl rfl rfl (yl_move rfl rfl) ?_
    refine wl_nil ?_
    refine at_keep (Keep.cons 0 rfl (Keep.cons 1 rfl (Keep.cons 2 rfl (Keep.cons 6 rfl (Keep.cons 7 rfl (Keep.cons 8 rfl (Keep.cons 9 rfl (Keep.cons 10 rfl (Keep.cons 11 rfl (Keep.cons 12 rfl (Keep.cons 55 rfl Keep.nil))))))))))) ?_
    refine at_true rfl ?_
    refine at_seq ?_
    refine at_region ?_
    refine wl_call rfl rfl rfl (en_call rfl rfl) (awake_fn _ _) ?_
    rintro _ _ ⟨rfl, rfl⟩
    refine wl_read rfl rfl rfl (yl_move rfl rfl) ?_
    refine wl_read rfl rfl rfl (yl_move rfl rfl) ?_
    refine wl_read rfl rfl rfl ((yp_eql rfl rfl rfl).1 rfl) ?_
    refine wl_read rfl rfl rfl (yl_pickT rfl rfl rfl) ?_
    refine wl_read rfl rfl rfl (yl_move rfl rfl) ?_
    refine wl_read rfl rfl rfl (yl_move rfl rfl) ?_
    refine wl_heap (fun _ hw => hw.front1) ?_
    refine wl_call rfl rfl rfl (en_call rfl rfl) (len_fn _ _ g _ _) ?_
    rintro _ _ ⟨rfl, rfl⟩
    refine wl_read rfl rfl rfl ((yp_eql rfl rfl rfl).1 rfl) ?_
    refine wl_read rfl rfl rfl (yl_pickT rfl rfl rfl) ?_
    refine wl_read rfl rfl rfl (yl_assign rfl rfl) ?_
    refine wl_nil ?_
    refine at_keep (Keep.cons 0 rfl (Keep.cons 1 rfl (Keep.cons 2 rfl (Keep.cons 6 rfl (Keep.cons 7 rfl (Keep.cons 8 rfl (Keep.cons 9 rfl (Keep.cons 10 rfl (Keep.cons 11 rfl (Keep.cons 12 rfl (Keep.cons 55 rfl Keep.nil))))))))))) ?_
    refine at_retH (fun _ hw => hw.tail.tail.tail) Try.func3 (res1 rfl rfl) ?_
    exact ⟨rfl, rfl⟩
  ·
    refine fn_of_at (by kernel_rfl) Try.func3 rfl Try.ntmps3 rfl rfl ?_
    refine at_seq ?_
    refine at_region ?_
    refine wl_read rfl rfl rfl (yl_assign rfl rfl) ?_
    refine wl_nil ?_
    refine at_keep (Keep.cons 0 rfl (Keep.cons 1 rfl (Keep.cons 2 rfl (Keep.cons 6 rfl Keep.nil)))) ?_
    refine at_seq ?_
    refine at_region ?_
    refine wl_call rfl rfl rfl (en_call rfl rfl) (new_fn _ _) ?_
    rintro _ _ ⟨g, rfl, rfl⟩
    refine wl_read rfl rfl rfl (yl_assign rfl rfl) ?_
    refine wl_nil ?_
    refine at_keep (Keep.cons 0 rfl (Keep.cons 1 rfl (Keep.cons 2 rfl (Keep.cons 6 rfl (Keep.cons 7 rfl Keep.nil))))) ?_
    refine at_seq ?_
    refine at_region ?_
    refine wl_read rfl rfl rfl (yl_move rfl rfl) ?_
    refine wl_call rfl rfl rfl (en_call rfl rfl) (mod_fn _ _ _ _ (by decide) (by decide)) ?_
    rintro _ _ ⟨rfl, rfl⟩
    refine wl_read rfl rfl rfl (yl_assign rfl rfl) ?_
    refine wl_nil ?_
    refine at_keep (Keep.cons 0 rfl (Keep.cons 1 rfl (Keep.cons 2 rfl (Keep.cons 6 rfl (Keep.cons 7 rfl (Keep.cons 8 rfl Keep.nil)))))) ?_
    refine at_seq ?_
    refine at_region ?_
    refine wl_read rfl rfl rfl (yl_move rfl rfl) ?_
    refine wl_call rfl rfl rfl (en_call rfl rfl) (mod_fn _ _ _ _ (by decide) (by decide)) ?_
    rintro _ _ ⟨rfl, rfl⟩
    refine wl_read rfl rfl rfl (yl_sub rfl rfl rfl (w64 (by omega) (by omega))) ?_
    refine wl_read rfl rfl rfl (yl_move rfl rfl) ?_
    refine wl_call rfl rfl rfl (en_call rfl rfl) (mod_fn _ _ _ _ (by decide) (by decide)) ?_
    rintro _ _ ⟨rfl, rfl⟩
    refine wl_read rfl rfl rfl (yl_sub rfl rfl rfl (w64 (by omega) (by omega))) ?_
    refine wl_read rfl rfl rfl (yl_assign rfl rfl) ?_
    refine wl_read rfl rfl rfl (yl_assign rfl rfl) ?_
    refine wl_nil ?_
    refine at_keep (Keep.cons 0 rfl (Keep.cons 1 rfl (Keep.cons 2 rfl (Keep.cons 6 rfl (Keep.cons 7 rfl (Keep.cons 8 rfl (Keep.cons 9 rfl (Keep.cons 10 rfl Keep.nil)))))))) ?_
    refine at_seq ?_
    rw [hn]
    refine at_region ?_
    refine wl_read rfl rfl rfl (yl_move rfl rfl) ?_
    refine wl_split rfl rfl rfl (yp_geq rfl rfl rfl) ?_ ?_
    · intro h4_1
      refine wl_read rfl rfl rfl (yl_move rfl rfl) ?_
      refine wl_read rfl rfl rfl (yl_move rfl rfl) ?_
      refine wl_split rfl rfl rfl (yp_lss rfl rfl rfl) ?_ ?_
      · intro h4_4
        refine wl_read rfl rfl rfl (yl_pickT rfl rfl rfl) ?_
        refine wl_read rfl rfl rfl (yl_move rfl rfl) ?_
        refine wl_read rfl rfl rfl (yl_move rfl rfl) ?_
        refine wl_split rfl rfl rfl (yp_geq rfl rfl rfl) ?_ ?_
        · intro h4_8
          refine wl_read rfl rfl rfl (yl_pickT rfl rfl rfl) ?_
          refine wl_read rfl rfl rfl (yl_move rfl rfl) ?_
          refine wl_read rfl rfl rfl (yl_move rfl rfl) ?_
          refine wl_split rfl rfl rfl (yp_lss rfl rfl rfl) ?_ ?_
          · intro h4_12
            refine wl_read rfl rfl rfl (yl_pickT rfl rfl rfl) ?_
            refine wl_read rfl rfl rfl (yl_move rfl rfl) ?_
            refine wl_read rfl rfl rfl (yl_move rfl rfl) ?_
            refine wl_read rfl rfl rfl (yl_move rfl rfl) ?_
            refine wl_split rfl rfl rfl (yp_neq rfl rfl rfl) ?_ ?_
            · intro h4_17
              refine wl_read rfl rfl rfl (yl_pickT rfl rfl rfl) ?_
              refine wl_read rfl rfl rfl (yl_move rfl rfl) ?_
              refine wl_read rfl rfl rfl (yl_move rfl rfl) ?_
              refine wl_split rfl rfl rfl (yp_geq rfl rfl rfl) ?_ ?_
              · intro h4_21
                refine wl_read rfl rfl rfl (yl_pickT rfl rfl rfl) ?_
                refine wl_read rfl rfl rfl (yl_move rfl rfl) ?_
                refine wl_read rfl rfl rfl (yl_move rfl rfl) ?_
                refine wl_split rfl rfl rfl (yp_leq rfl rfl rfl) ?_ ?_
                · intro h4_25
                  exact absurd (by unfold okS; rw [hln]; omega) hs
                · intro h4_25
                  refine wl_read rfl rfl rfl (yl_pickT rfl rfl rfl) ?_
                  refine wl_read rfl rfl rfl (yl_assign rfl rfl) ?_
                  refine wl_nil ?_
                  refine at_keep (Keep.cons 0 rfl (Keep.cons 1 rfl (Keep.cons 2 rfl (Keep.cons 6 rfl (Keep.cons 7 rfl (Keep.cons 8 rfl (Keep.cons 9 rfl (Keep.cons 10 rfl (Keep.cons 11 rfl Keep.nil))))))))) ?_
                  refine at_seq ?_
                  refine at_region ?_
                  refine wl_read rfl rfl rfl (yl_move rfl rfl) ?_
                  refine wl_read rfl rfl rfl (yl_move rfl rfl) ?_
                  refine wl_read rfl rfl rfl (yl_move rfl rfl) ?_
                  refine wl_read rfl rfl rfl (yl_move rfl rfl) ?_
                  refine wl_eff rfl rfl rfl (ef_make (x := (0 : UInt8)) (List.replicate n (0 : UInt8)) rfl rfl rfl rfl Try.underlying27 infoz5 rfl rfl rfl (by omega) byt5) ?_
                  rintro _ _ ⟨A5, rfl, rfl⟩
                  refine wl_heap (fun _ hw => hw.front1) ?_
                  refine wl_call rfl rfl rfl (en_call rfl rfl) (send_bad [] ⟨0, 0, 0, 0⟩ g _ _ (md f 10 - 2) (md t 10 - 2) (List.replicate n (0 : UInt8)) _ _ hs) ?_
                  rintro _ _ ⟨rfl, rfl⟩
                  refine wl_read rfl rfl rfl (yl_assign rfl rfl) ?_
                  refine wl_nil ?_
                  refine at_keep (Keep.cons 0 rfl (Keep.cons 1 rfl (Keep.cons 2 rfl (Keep.cons 6 rfl (Keep.cons 7 rfl (Keep.cons 8 rfl (Keep.cons 9 rfl (Keep.cons 10 rfl (Keep.cons 11 rfl (Keep.cons 12 rfl Keep.nil)))))))))) ?_
                  refine at_seq ?_
                  refine at_seq ?_
                  refine at_region ?_
                  refine wl_read rfl rfl rfl (yl_move rfl rfl) ?_
                  refine wl_nil ?_
                  refine at_keep (Keep.cons 0 rfl (Keep.cons 1 rfl (Keep.cons 2 rfl (Keep.cons 6 rfl (Keep.cons 7 rfl (Keep.cons 8 rfl (Keep.cons 9 rfl (Keep.cons 10 rfl (Keep.cons 11 rfl (Keep.cons 12 rfl (Keep.cons 55 rfl Keep.nil))))))))))) ?_
                  refine at_false rfl ?_
                  refine at_skip ?_
                  refine at_seq ?_
                  refine at_region ?_
                  refine wl_call rfl rfl rfl (en_call rfl rfl) (awake_fn _ _) ?_
                  rintro _ _ ⟨rfl, rfl⟩
                  refine wl_read rfl rfl rfl (yl_move rfl rfl) ?_
                  refine wl_read rfl rfl rfl (yl_move rfl rfl) ?_
                  refine wl_read rfl rfl rfl ((yp_eql rfl rfl rfl).1 rfl) ?_
                  refine wl_read rfl rfl rfl (yl_pickT rfl rfl rfl) ?_
                  refine wl_read rfl rfl rfl (yl_move rfl rfl) ?_
                  refine wl_read rfl rfl rfl (yl_move rfl rfl) ?_
                  refine wl_call rfl rfl rfl (en_call rfl rfl) (len_fn _ _ g _ _) ?_
                  rintro _ _ ⟨rfl, rfl⟩
                  refine wl_read rfl rfl rfl ((yp_eql rfl rfl rfl).1 rfl) ?_
                  refine wl_read rfl rfl rfl (yl_pickT rfl rfl rfl) ?_
                  refine wl_read rfl rfl rfl (yl_assign rfl rfl) ?_
                  refine wl_nil ?_
                  refine at_keep (Keep.cons 0 rfl (Keep.cons 1 rfl (Keep.cons 2 rfl (Keep.cons 6 rfl (Keep.cons 7 rfl (Keep.cons 8 rfl (Keep.cons 9 rfl (Keep.cons 10 rfl (Keep.cons 11 rfl (Keep.cons 12 rfl (Keep.cons 55 rfl Keep.nil))))))))))) ?_
                  refine at_retH (fun _ hw => hw.tail.tail) Try.func3 (res1 rfl rfl) ?_
                  exact ⟨rfl, rfl⟩
              · intro h4_21
                refine wl_read rfl rfl rfl (yl_pickT rfl rfl rfl) ?_
                refine wl_read rfl rfl rfl (yl_move rfl rfl) ?_
                refine wl_skip rfl rfl rfl ?_
                refine wl_skip rfl rfl rfl ?_
                refine wl_read rfl rfl rfl (yl_pickF rfl rfl rfl) ?_
                refine wl_read rfl rfl rfl (yl_assign rfl rfl) ?_
                refine wl_nil ?_
                refine at_keep (Keep.cons 0 rfl (Keep.cons 1 rfl (Keep.cons 2 rfl (Keep.cons 6 rfl (Keep.cons 7 rfl (Keep.cons 8 rfl (Keep.cons 9 rfl (Keep.cons 10 rfl (Keep.cons 11 rfl Keep.nil))))))))) ?_
                refine at_seq ?_
                refine at_region ?_
                refine wl_read rfl rfl rfl (yl_move rfl rfl) ?_
                refine wl_read rfl rfl rfl (yl_move rfl rfl) ?_
                refine wl_read rfl rfl rfl (yl_move rfl rfl) ?_
                refine wl_read rfl rfl rfl (yl_move rfl rfl) ?_
                refine wl_eff rfl rfl rfl (ef_make (x := (0 : UInt8)) (List.replicate n (0 : UInt8)) rfl rfl rfl rfl Try.underlying27 infoz5 rfl rfl rfl (by omega) byt5) ?_
                rintro _ _ ⟨A5, rfl, rfl⟩
                refine wl_heap (fun _ hw => hw.front1) ?_
                refine wl_call rfl rfl rfl (en_call rfl rfl) (send_bad [] ⟨0, 0, 0, 0⟩ g _ _ (md f 10 - 2) (md t 10 - 2) (List.replicate n (0 : UInt8)) _ _ hs) ?_
                rintro _ _ ⟨rfl, rfl⟩
                refine wl_read rfl rfl rfl (yl_assign rfl rfl) ?_
                refine wl_nil ?_
                refine at_keep (Keep.cons 0 rfl (Keep.cons 1 rfl (Keep.cons 2 rfl (Keep.cons 6 rfl (Keep.cons 7 rfl (Keep.cons 8 rfl (Keep.cons 9 rfl (Keep.cons 10 rfl (Keep.cons 11 rfl (Keep.cons 12 rfl Keep.nil)))))))))) ?_
                refine at_seq ?_
                refine at_seq ?_
                refine at_region ?_
                refine wl_read rfl rfl rfl (yl_move rfl rfl) ?_
                refine wl_nil ?_
                refine at_keep (Keep.cons 0 rfl (Keep.cons 1 rfl (Keep.cons 2 rfl (Keep.cons 6 rfl (Keep.cons 7 rfl (Keep.cons 8 rfl (Keep.cons 9 rfl (Keep.cons 10 rfl (Keep.cons 11 rfl (Keep.cons 12 rfl (Keep.cons 55 rfl Keep.nil))))))))))) ?_
                refine at_false rfl ?_
                refine at_skip ?_
                refine at_seq ?_
                refine at_region ?_
                refine wl_call rfl rfl rfl (en_call rfl rfl) (awake_fn _ _) ?_
                rintro _ _ ⟨rfl, rfl⟩
                refine wl_read rfl rfl rfl (yl_move rfl rfl) ?_
                refine wl_read rfl rfl rfl (yl_move rfl rfl) ?_
                refine wl_read rfl rfl rfl ((yp_eql rfl rfl rfl).1 rfl) ?_
                refine wl_read rfl rfl rfl (yl_pickT rfl rfl rfl) ?_
                refine wl_read rfl rfl rfl (yl_move rfl rfl) ?_
                refine wl_read rfl rfl rfl (yl_move rfl rfl) ?_
                refine wl_call rfl rfl rfl (en_call rfl rfl) (len_fn _ _ g _ _) ?_
                rintro _ _ ⟨rfl, rfl⟩
                refine wl_read rfl rfl rfl ((yp_eql rfl rfl rfl).1 rfl) ?_
                refine wl_read rfl rfl rfl (yl_pickT rfl rfl rfl) ?_
                refine wl_read rfl rfl rfl (yl_assign rfl rfl) ?_
                refine wl_nil ?_
                refine at_keep (Keep.cons 0 rfl (Keep.cons 1 rfl (Keep.cons 2 rfl (Keep.cons 6 rfl (Keep.cons 7 rfl (Keep.cons 8 rfl (Keep.cons 9 rfl (Keep.cons 10 rfl (Keep.cons 11 rfl (Keep.cons 12 rfl (Keep.cons 55 rfl Keep.nil))))))))))) ?_
                refine at_retH (fun _ hw => hw.tail.tail) Try.func3 (res1 rfl rfl) ?_
                exact ⟨rfl, rfl⟩
            · intro h4_17
              refine wl_read rfl rfl rfl (yl_pickT rfl rfl rfl) ?_
              refine wl_read rfl rfl rfl (yl_move rfl rfl) ?_
              refine wl_skip rfl rfl rfl ?_
              refine wl_skip rfl rfl rfl ?_
              refine wl_read rfl rfl rfl (yl_pickF rfl rfl rfl) ?_
              refine wl_read rfl rfl rfl (yl_move rfl rfl) ?_
              refine wl_skip rfl rfl rfl ?_
              refine wl_skip rfl rfl rfl ?_
              refine wl_read rfl rfl rfl (yl_pickF rfl rfl rfl) ?_
              refine wl_read rfl rfl rfl (yl_assign rfl rfl) ?_
              refine wl_nil ?_
              refine at_keep (Keep.cons 0 rfl (Keep.cons 1 rfl (Keep.cons 2 rfl (Keep.cons 6 rfl (Keep.cons 7 rfl (Keep.cons 8 rfl (Keep.cons 9 rfl (Keep.cons 10 rfl (Keep.cons 11 rfl Keep.nil))))))))) ?_
              refine at_seq ?_
              refine at_region ?_
              refine wl_read rfl rfl rfl (yl_move rfl rfl) ?_
              refine wl_read rfl rfl rfl (yl_move rfl rfl) ?_
              refine wl_read rfl rfl rfl (yl_move rfl rfl) ?_
              refine wl_read rfl rfl rfl (yl_move rfl rfl) ?_
              refine wl_eff rfl rfl rfl (ef_make (x := (0 : UInt8)) (List.replicate n (0 : UInt8)) rfl rfl rfl rfl Try.underlying27 infoz5 rfl rfl rfl (by omega) byt5) ?_
              rintro _ _ ⟨A5, rfl, rfl⟩
              refine wl_heap (fun _ hw => hw.front1) ?_
              refine wl_call rfl rfl rfl (en_call rfl rfl) (send_bad [] ⟨0, 0, 0, 0⟩ g _ _ (md f 10 - 2) (md t 10 - 2) (List.replicate n (0 : UInt8)) _ _ hs) ?_
              rintro _ _ ⟨rfl, rfl⟩
              refine wl_read rfl rfl rfl (yl_assign rfl rfl) ?_
              refine wl_nil ?_
              refine at_keep (Keep.cons 0 rfl (Keep.cons 1 rfl (Keep.cons 2 rfl (Keep.cons 6 rfl (Keep.cons 7 rfl (Keep.cons 8 rfl (Keep.cons 9 rfl (Keep.cons 10 rfl (Keep.cons 11 rfl (Keep.cons 12 rfl Keep.nil)))))))))) ?_
              refine at_seq ?_
              refine at_seq ?_
              refine at_region ?_
              refine wl_read rfl rfl rfl (yl_move rfl rfl) ?_
              refine wl_nil ?_
              refine at_keep (Keep.cons 0 rfl (Keep.cons 1 rfl (Keep.cons 2 rfl (Keep.cons 6 rfl (Keep.cons 7 rfl (Keep.cons 8 rfl (Keep.cons 9 rfl (Keep.cons 10 rfl (Keep.cons 11 rfl (Keep.cons 12 rfl (Keep.cons 55 rfl Keep.nil))))))))))) ?_
              refine at_false rfl ?_
              refine at_skip ?_
              refine at_seq ?_
              refine at_region ?_
              refine wl_call rfl rfl rfl (en_call rfl rfl) (awake_fn _ _) ?_
              rintro _ _ ⟨rfl, rfl⟩
              refine wl_read rfl rfl rfl (yl_move rfl rfl) ?_
              refine wl_read rfl rfl rfl (yl_move rfl rfl) ?_
              refine wl_read rfl rfl rfl ((yp_eql rfl rfl rfl).1 rfl) ?_
              refine wl_read rfl rfl rfl (yl_pickT rfl rfl rfl) ?_
              refine wl_read rfl rfl rfl (yl_move rfl rfl) ?_
              refine wl_read rfl rfl rfl (yl_move rfl rfl) ?_
              refine wl_call rfl rfl rfl (en_call rfl rfl) (len_fn _ _ g _ _) ?_
              rintro _ _ ⟨rfl, rfl⟩
              refine wl_read rfl rfl rfl ((yp_eql rfl rfl rfl).1 rfl) ?_
              refine wl_read rfl rfl rfl (yl_pickT rfl rfl rfl) ?_
              refine wl_read rfl rfl rfl (yl_assign rfl rfl) ?_
              refine wl_nil ?_
              refine at_keep (Keep.cons 0 rfl (Keep.cons 1 rfl (Keep.cons 2 rfl (Keep.cons 6 rfl (Keep.cons 7 rfl (Keep.cons 8 rfl (Keep.cons 9 rfl (Keep.cons 10 rfl (Keep.cons 11 rfl (Keep.cons 12 rfl (Keep.cons 55 rfl Keep.nil))))))))))) ?_
              refine at_retH (fun _ hw => hw.tail.tail) Try.func3 (res1 rfl rfl) ?_
              exact ⟨rfl, rfl⟩
          · intro h4_12
            refine wl_read rfl rfl rfl (yl_pickT rfl rfl rfl) ?_
            refine wl_read rfl rfl rfl (yl_move rfl rfl) ?_
            refine wl_skip rfl rfl rfl ?_
            refine wl_skip rfl rfl rfl ?_
            refine wl_skip rfl rfl rfl ?_
            refine wl_read rfl rfl rfl (yl_pickF rfl rfl rfl) ?_
            refine wl_read rfl rfl rfl (yl_move rfl rfl) ?_
            refine wl_skip rfl rfl rfl ?_
            refine wl_skip rfl rfl rfl ?_
            refine wl_read rfl rfl rfl (yl_pickF rfl rfl rfl) ?_
            refine wl_read rfl rfl rfl (yl_move rfl rfl) ?_
            refine wl_skip rfl rfl rfl ?_
            refine wl_skip rfl rfl rfl ?_
            refine wl_read rfl rfl rfl (yl_pickF rfl rfl rfl) ?_
            refine wl_read rfl rfl rfl (yl_assign rfl rfl) ?_
            refine wl_nil ?_
            refine at_keep (Keep.cons 0 rfl (Keep.cons 1 rfl (Keep.cons 2 rfl (Keep.cons 6 rfl (Keep.cons 7 rfl (Keep.cons 8 rfl (Keep.cons 9 rfl (Keep.cons 10 rfl (Keep.cons 11 rfl Keep.nil))))))))) ?_
            refine at_seq ?_
            refine at_region ?_
            refine wl_read rfl rfl rfl (yl_move rfl rfl) ?_
            refine wl_read rfl rfl rfl (yl_move rfl rfl) ?_
            refine wl_read rfl rfl rfl (yl_move rfl rfl) ?_
            refine wl_read rfl rfl rfl (yl_move rfl rfl) ?_
            refine wl_eff rfl rfl rfl (ef_make (x := (0 : UInt8)) (List.replicate n (0 : UInt8)) rfl rfl rfl rfl Try.underlying27 infoz5 rfl rfl rfl (by omega) byt5) ?_
            rintro _ _ ⟨A5, rfl, rfl⟩
            refine wl_heap (fun _ hw => hw.front1) ?_
            refine wl_call rfl rfl rfl (en_call rfl rfl) (send_bad [] ⟨0, 0, 0, 0⟩ g _ _ (md f 10 - 2) (md t 10 - 2) (List.replicate n (0 : UInt8)) _ _ hs) ?_
            rintro _ _ ⟨rfl, rfl⟩
            refine wl_read rfl rfl rfl (yl_assign rfl rfl) ?_
            refine wl_nil ?_
            refine at_keep (Keep.cons 0 rfl (Keep.cons 1 rfl (Keep.cons 2 rfl (Keep.cons 6 rfl (Keep.cons 7 rfl (Keep.cons 8 rfl (Keep.cons 9 rfl (Keep.cons 10 rfl (Keep.cons 11 rfl (Keep.cons 12 rfl Keep.nil)))))))))) ?_
            refine at_seq ?_
            refine at_seq ?_
            refine at_region ?_
            refine wl_read rfl rfl rfl (yl_move rfl rfl) ?_
            refine wl_nil ?_
            refine at_keep (Keep.cons 0 rfl (Keep.cons 1 rfl (Keep.cons 2 rfl (Keep.cons 6 rfl (Keep.cons 7 rfl (Keep.cons 8 rfl (Keep.cons 9 rfl (Keep.cons 10 rfl (Keep.cons 11 rfl (Keep.cons 12 rfl (Keep.cons 55 rfl Keep.nil))))))))))) ?_
            refine at_false rfl ?_
            refine at_skip ?_
            refine at_seq ?_
            refine at_region ?_
            refine wl_call rfl rfl rfl (en_call rfl rfl) (awake_fn _ _) ?_
            rintro _ _ ⟨rfl, rfl⟩
            refine wl_read rfl rfl rfl (yl_move rfl rfl) ?_
            refine wl_read rfl rfl rfl (yl_move rfl rfl) ?_
            refine wl_read rfl rfl rfl ((yp_eql rfl rfl rfl).1 rfl) ?_
            refine wl_read rfl rfl rfl (yl_pickT rfl rfl rfl) ?_
            refine wl_read rfl rfl rfl (yl_move rfl rfl) ?_
            refine wl_read rfl rfl rfl (yl_move rfl rfl) ?_
            refine wl_call rfl rfl rfl (en_call rfl rfl) (len_fn _ _ g _ _) ?_
            rintro _ _ ⟨rfl, rfl⟩
            refine wl_read rfl rfl rfl ((yp_eql rfl rfl rfl).1 rfl) ?_
            refine wl_read rfl rfl rfl (yl_pickT rfl rfl rfl) ?_
            refine wl_read rfl rfl rfl (yl_assign rfl rfl) ?_
            refine wl_nil ?_
            refine at_keep (Keep.cons 0 rfl (Keep.cons 1 rfl (Keep.cons 2 rfl (Keep.cons 6 rfl (Keep.cons 7 rfl (Keep.cons 8 rfl (Keep.cons 9 rfl (Keep.cons 10 rfl (Keep.cons 11 rfl (Keep.cons 12 rfl (Keep.cons 55 rfl Keep.nil))))))))))) ?_
            refine at_retH (fun _ hw => hw.tail.tail) Try.func3 (res1 rfl rfl) ?_
            exact ⟨rfl, rfl⟩
        · intro h4_8
          refine wl_read rfl rfl rfl (yl_pickT rfl rfl rfl) ?_
          refine wl_read rfl rfl rfl (yl_move rfl rfl) ?_
          refine wl_skip rfl rfl rfl ?_
          refine wl_skip rfl rfl rfl ?_
          refine wl_read rfl rfl rfl (yl_pickF rfl rfl rfl) ?_
          refine wl_read rfl rfl rfl (yl_move rfl rfl) ?_
          refine wl_skip rfl rfl rfl ?_
          refine wl_skip rfl rfl rfl ?_
          refine wl_skip rfl rfl rfl ?_
          refine wl_read rfl rfl rfl (yl_pickF rfl rfl rfl) ?_
          refine wl_read rfl rfl rfl (yl_move rfl rfl) ?_
          refine wl_skip rfl rfl rfl ?_
          refine wl_skip rfl rfl rfl ?_
          refine wl_read rfl rfl rfl (yl_pickF rfl rfl rfl) ?_
          refine wl_read rfl rfl rfl (yl_move rfl rfl) ?_
          refine wl_skip rfl rfl rfl ?_
          refine wl_skip rfl rfl rfl ?_
          refine wl_read rfl rfl rfl (yl_pickF rfl rfl rfl) ?_
          refine wl_read rfl rfl rfl (yl_assign rfl rfl) ?_
          refine wl_nil ?_
          refine at_keep (Keep.cons 0 rfl (Keep.cons 1 rfl (Keep.cons 2 rfl (Keep.cons 6 rfl (Keep.cons 7 rfl (Keep.cons 8 rfl (Keep.cons 9 rfl (Keep.cons 10 rfl (Keep.cons 11 rfl Keep.nil))))))))) ?_
          refine at_seq ?_
          refine at_region ?_
          refine wl_read rfl rfl rfl (yl_move rfl rfl) ?_
          refine wl_read rfl rfl rfl (yl_move rfl rfl) ?_
          refine wl_read rfl rfl rfl (yl_move rfl rfl) ?_
          refine wl_read rfl rfl rfl (yl_move rfl rfl) ?_
          refine wl_eff rfl rfl rfl (ef_make (x := (0 : UInt8)) (List.replicate n (0 : UInt8)) rfl rfl rfl rfl Try.underlying27 infoz5 rfl rfl rfl (by omega) byt5) ?_
          rintro _ _ ⟨A5, rfl, rfl⟩
          refine wl_heap (fun _ hw => hw.front1) ?_
          refine wl_call rfl rfl rfl (en_call rfl rfl) (send_bad [] ⟨0, 0, 0, 0⟩ g _ _ (md f 10 - 2) (md t 10 - 2) (List.replicate n (0 : UInt8)) _ _ hs) ?_
          rintro _ _ ⟨rfl, rfl⟩
          refine wl_read rfl rfl rfl (yl_assign rfl rfl) ?_
          refine wl_nil ?_
          refine at_keep (Keep.cons 0 rfl (Keep.cons 1 rfl (Keep.cons 2 rfl (Keep.cons 6 rfl (Keep.cons 7 rfl (Keep.cons 8 rfl (Keep.cons 9 rfl (Keep.cons 10 rfl (Keep.cons 11 rfl (Keep.cons 12 rfl Keep.nil)))))))))) ?_
          refine at_seq ?_
          refine at_seq ?_
          refine at_region ?_
          refine wl_read rfl rfl rfl (yl_move rfl rfl) ?_
          refine wl_nil ?_
          refine at_keep (Keep.cons 0 rfl (Keep.cons 1 rfl (Keep.cons 2 rfl (Keep.cons 6 rfl (Keep.cons 7 rfl (Keep.cons 8 rfl (Keep.cons 9 rfl (Keep.cons 10 rfl (Keep.cons 11 rfl (Keep.cons 12 rfl (Keep.cons 55 rfl Keep.nil))))))))))) ?_
          refine at_false rfl ?_
          refine at_skip ?_
          refine at_seq ?_
          refine at_region ?_
          refine wl_call rfl rfl rfl (en_call rfl rfl) (awake_fn _ _) ?_
          rintro _ _ ⟨rfl, rfl⟩
          refine wl_read rfl rfl rfl (yl_move rfl rfl) ?_
          refine wl_read rfl rfl rfl (yl_move rfl rfl) ?_
          refine wl_read rfl rfl rfl ((yp_eql rfl rfl rfl).1 rfl) ?_
          refine wl_read rfl rfl rfl (yl_pickT rfl rfl rfl) ?_
          refine wl_read rfl rfl rfl (yl_move rfl rfl) ?_
          refine wl_read rfl rfl rfl (yl_move rfl rfl) ?_
          refine wl_call rfl rfl rfl (en_call rfl rfl) (len_fn _ _ g _ _) ?_
          rintro _ _ ⟨rfl, rfl⟩
          refine wl_read rfl rfl rfl ((yp_eql rfl rfl rfl).1 rfl) ?_
          refine wl_read rfl rfl rfl (yl_pickT rfl rfl rfl) ?_
          refine wl_read rfl rfl rfl (yl_assign rfl rfl) ?_
          refine wl_nil ?_
          refine at_keep (Keep.cons 0 rfl (Keep.cons 1 rfl (Keep.cons 2 rfl (Keep.cons 6 rfl (Keep.cons 7 rfl (Keep.cons 8 rfl (Keep.cons 9 rfl (Keep.cons 10 rfl (Keep.cons 11 rfl (Keep.cons 12 rfl (Keep.cons 55 rfl Keep.nil))))))))))) ?_
          refine at_retH (fun _ hw => hw.tail.tail) Try.func3 (res1 rfl rfl) ?_
          exact ⟨rfl, rfl⟩
      · intro h4_4
        refine wl_read rfl rfl rfl (yl_pickT rfl rfl rfl) ?_
        refine wl_read rfl rfl rfl (yl_move rfl rfl) ?_
        refine wl_skip rfl rfl rfl ?_
        refine wl_skip rfl rfl rfl ?_
        refine wl_read rfl rfl rfl (yl_pickF rfl rfl rfl) ?_
        refine wl_read rfl rfl rfl (yl_move rfl rfl) ?_
        refine wl_skip rfl rfl rfl ?_
        refine wl_skip rfl rfl rfl ?_
        refine wl_read rfl rfl rfl (yl_pickF rfl rfl rfl) ?_
        refine wl_read rfl rfl rfl (yl_move rfl rfl) ?_
        refine wl_skip rfl rfl rfl ?_
        refine wl_skip rfl rfl rfl ?_
        refine wl_skip rfl rfl rfl ?_
        refine wl_read rfl rfl rfl (yl_pickF rfl rfl rfl) ?_
        refine wl_read rfl rfl rfl (yl_move rfl rfl) ?_
        refine wl_skip rfl rfl rfl ?_
        refine wl_skip rfl rfl rfl ?_
        refine wl_read rfl rfl rfl (yl_pickF rfl rfl rfl) ?_
        refine wl_read rfl rfl rfl (yl_move rfl rfl) ?_
        refine wl_skip rfl rfl rfl ?_
        refine wl_skip rfl rfl rfl ?_
        refine wl_read rfl rfl rfl (yl_pickF rfl rfl rfl) ?_
        refine wl_read rfl rfl rfl (yl_assign rfl rfl) ?_
        refine wl_nil ?_
        refine at_keep (Keep.cons 0 rfl (Keep.cons 1 rfl (Keep.cons 2 rfl (Keep.cons 6 rfl (Keep.cons 7 rfl (Keep.cons 8 rfl (Keep.cons 9 rfl (Keep.cons 10 rfl (Keep.cons 11 rfl Keep.nil))))))))) ?_
        refine at_seq ?_
        refine at_region ?_
        refine wl_read rfl rfl rfl (yl_move rfl rfl) ?_
        refine wl_read rfl rfl rfl (yl_move rfl rfl) ?_
        refine wl_read rfl rfl rfl (yl_move rfl rfl) ?_
        refine wl_read rfl rfl rfl (yl_move rfl rfl) ?_
        refine wl_eff rfl rfl rfl (ef_make (x := (0 : UInt8)) (List.replicate n (0 : UInt8)) rfl rfl rfl rfl Try.underlying27 infoz5 rfl rfl rfl (by omega) byt5) ?_
        rintro _ _ ⟨A5, rfl, rfl⟩
        refine wl_heap (fun _ hw => hw.front1) ?_
        refine wl_call rfl rfl rfl (en_call rfl rfl) (send_bad [] ⟨0, 0, 0, 0⟩ g _ _ (md f 10 - 2) (md t 10 - 2) (List.replicate n (0 : UInt8)) _ _ hs) ?_
        rintro _ _ ⟨rfl, rfl⟩
        refine wl_read rfl rfl rfl (yl_assign rfl rfl) ?_
        refine wl_nil ?_
        refine at_keep (Keep.cons 0 rfl (Keep.cons 1 rfl (Keep.cons 2 rfl (Keep.cons 6 rfl (Keep.cons 7 rfl (Keep.cons 8 rfl (Keep.cons 9 rfl (Keep.cons 10 rfl (Keep.cons 11 rfl (Keep.cons 12 rfl Keep.nil)))))))))) ?_
        refine at_seq ?_
        refine at_seq ?_
        refine at_region ?_
        refine wl_read rfl rfl rfl (yl_move rfl rfl) ?_
        refine wl_nil ?_
        refine at_keep (Keep.cons 0 rfl (Keep.cons 1 rfl (Keep.cons 2 rfl (Keep.cons 6 rfl (Keep.cons 7 rfl (Keep.cons 8 rfl (Keep.cons 9 rfl (Keep.cons 10 rfl (Keep.cons 11 rfl (Keep.cons 12 rfl (Keep.cons 55 rfl Keep.nil))))))))))) ?_
        refine at_false rfl ?_
        refine at_skip ?_
        refine at_seq ?_
        refine at_region ?_
        refine wl_call rfl rfl rfl (en_call rfl rfl) (awake_fn _ _) ?_
        rintro _ _ ⟨rfl, rfl⟩
        refine wl_read rfl rfl rfl (yl_move rfl rfl) ?_
        refine wl_read rfl rfl rfl (yl_move rfl rfl) ?_
        refine wl_read rfl rfl rfl ((yp_eql rfl rfl rfl).1 rfl) ?_
        refine wl_read rfl rfl rfl (yl_pickT rfl rfl rfl) ?_
        refine wl_read rfl rfl rfl (yl_move rfl rfl) ?_
        refine wl_read rfl rfl rfl (yl_move rfl rfl) ?_
        refine wl_call rfl rfl rfl (en_call rfl rfl) (len_fn _ _ g _ _) ?_
        rintro _ _ ⟨rfl, rfl⟩
        refine wl_read rfl rfl rfl ((yp_eql rfl rfl rfl).1 rfl) ?_
        refine wl_read rfl rfl rfl (yl_pickT rfl rfl rfl) ?_
        refine wl_read rfl rfl rfl (yl_assign rfl rfl) ?_
        refine wl_nil ?_
        refine at_keep (Keep.cons 0 rfl (Keep.cons 1 rfl (Keep.cons 2 rfl (Keep.cons 6 rfl (Keep.cons 7 rfl (Keep.cons 8 rfl (Keep.cons 9 rfl (Keep.cons 10 rfl (Keep.cons 11 rfl (Keep.cons 12 rfl (Keep.cons 55 rfl Keep.nil))))))))))) ?_
        refine at_retH (fun _ hw => hw.tail.tail) Try.func3 (res1 rfl rfl) ?_
        exact ⟨rfl, rfl⟩
    · intro h4_1
      refine wl_read rfl rfl rfl (yl_move rfl rfl) ?_
      refine wl_skip rfl rfl rfl ?_
      refine wl_skip rfl rfl rfl ?_
      refine wl_read rfl rfl rfl (yl_pickF rfl rfl rfl) ?_
      refine wl_read rfl rfl rfl (yl_move rfl rfl) ?_
      refine wl_skip rfl rfl rfl ?_
      refine wl_skip rfl rfl rfl ?_
      refine wl_read rfl rfl rfl (yl_pickF rfl rfl rfl) ?_
      refine wl_read rfl rfl rfl (yl_move rfl rfl) ?_
      refine wl_skip rfl rfl rfl ?_
      refine wl_skip rfl rfl rfl ?_
      refine wl_read rfl rfl rfl (yl_pickF rfl rfl rfl) ?_
      refine wl_read rfl rfl rfl (yl_move rfl rfl) ?_
      refine wl_skip rfl rfl rfl ?_
      refine wl_skip rfl rfl rfl ?_
      refine wl_skip rfl rfl rfl ?_
      refine wl_read rfl rfl rfl (yl_pickF rfl rfl rfl) ?_
      refine wl_read rfl rfl rfl (yl_move rfl rfl) ?_
      refine wl_skip rfl rfl rfl ?_
      refine wl_skip rfl rfl rfl ?_
      refine wl_read rfl rfl rfl (yl_pickF rfl rfl rfl) ?_
      refine wl_read rfl rfl rfl (yl_move rfl rfl) ?_
      refine wl_skip rfl rfl rfl ?_
      refine wl_skip rfl rfl rfl ?_
      refine wl_read rfl rfl rfl (yl_pickF rfl rfl rfl) ?_
      refine wl_read rfl rfl rfl (yl_assign rfl rfl) ?_
      refine wl_nil ?_
      refine at_keep (Keep.cons 0 rfl (Keep.cons 1 rfl (Keep.cons 2 rfl (Keep.cons 6 rfl (Keep.cons 7 rfl (Keep.cons 8 rfl (Keep.cons 9 rfl (Keep.cons 10 rfl (Keep.cons 11 rfl Keep.nil))))))))) ?_
      refine at_seq ?_
      refine at_region ?_
      refine wl_read rfl rfl rfl (yl_move rfl rfl) ?_
      refine wl_read rfl rfl rfl (yl_move rfl rfl) ?_
      refine wl_read rfl rfl rfl (yl_move rfl rfl) ?_
      refine wl_read rfl rfl rfl (yl_move rfl rfl) ?_
      refine wl_eff rfl rfl rfl (ef_make (x := (0 : UInt8)) (List.replicate n (0 : UInt8)) rfl rfl rfl rfl Try.underlying27 infoz5 rfl rfl rfl (by omega) byt5) ?_
      rintro _ _ ⟨A5, rfl, rfl⟩
      refine wl_heap (fun _ hw => hw.front1) ?_
      refine wl_call rfl rfl rfl (en_call rfl rfl) (send_bad [] ⟨0, 0, 0, 0⟩ g _ _ (md f 10 - 2) (md t 10 - 2) (List.replicate n (0 : UInt8)) _ _ hs) ?_
      rintro _ _ ⟨rfl, rfl⟩
      refine wl_read rfl rfl rfl (yl_assign rfl rfl) ?_
      refine wl_nil ?_
      refine at_keep (Keep.cons 0 rfl (Keep.cons 1 rfl (Keep.cons 2 rfl (Keep.cons 6 rfl (Keep.cons 7 rfl (Keep.cons 8 rfl (Keep.cons 9 rfl (Keep.cons 10 rfl (Keep.cons 11 rfl (Keep.cons 12 rfl Keep.nil)))))))))) ?_
      refine at_seq ?_
      refine at_seq ?_
      refine at_region ?_
      refine wl_read rfl rfl rfl (yl_move rfl rfl) ?_
      refine wl_nil ?_
      refine at_keep (Keep.cons 0 rfl (Keep.cons 1 rfl (Keep.cons 2 rfl (Keep.cons 6 rfl (Keep.cons 7 rfl (Keep.cons 8 rfl (Keep.cons 9 rfl (Keep.cons 10 rfl (Keep.cons 11 rfl (Keep.cons 12 rfl (Keep.cons 55 rfl Keep.nil))))))))))) ?_
      refine at_false rfl ?_
      refine at_skip ?_
      refine at_seq ?_
      refine at_region ?_
      refine wl_call rfl rfl rfl (en_call rfl rfl) (awake_fn _ _) ?_
      rintro _ _ ⟨rfl, rfl⟩
      refine wl_read rfl rfl rfl (yl_move rfl rfl) ?_
      refine wl_read rfl rfl rfl (yl_move rfl rfl) ?_
      refine wl_read rfl rfl rfl ((yp_eql rfl rfl rfl).1 rfl) ?_
      refine wl_read rfl rfl rfl (yl_pickT rfl rfl rfl) ?_
      refine wl_read rfl rfl rfl (yl_move rfl rfl) ?_
      refine wl_read rfl rfl rfl (yl_move rfl rfl) ?_
      refine wl_call rfl rfl rfl (en_call rfl rfl) (len_fn _ _ g _ _) ?_
      rintro _ _ ⟨rfl, rfl⟩
      refine wl_read rfl rfl rfl ((yp_eql rfl rfl rfl).1 rfl) ?_
      refine wl_read rfl rfl rfl (yl_pickT rfl rfl rfl) ?_
      refine wl_read rfl rfl rfl (yl_assign rfl rfl) ?_
      refine wl_nil ?_
      refine at_keep (Keep.cons 0 rfl (Keep.cons 1 rfl (Keep.cons 2 rfl (Keep.cons 6 rfl (Keep.cons 7 rfl (Keep.cons 8 rfl (Keep.cons 9 rfl (Keep.cons 10 rfl (Keep.cons 11 rfl (Keep.cons 12 rfl (Keep.cons 55 rfl Keep.nil))))))))))) ?_
      refine at_retH (fun _ hw => hw.tail.tail) Try.func3 (res1 rfl rfl) ?_
      exact ⟨rfl, rfl⟩
theorem law10 (x : Raw) (b : World) (H : List Asr) : Fn Try.prog 10 [.agg (Enc.cells x).toArray] b H (fun v H' => v = .bool true ∧ H = H') := by
  refine fn_of_at (by kernel_rfl) Try.func10 rfl Try.ntmps10 rfl rfl ?_
  refine at_seq ?_
  refine at_region ?_
  refine wl_eff rfl rfl rfl (ef_box rfl rfl rfl) ?_
  rintro _ _ ⟨g1, rfl, rfl⟩
  refine wl_read rfl rfl rfl (yl_assign rfl rfl) ?_
  refine wl_nil ?_
  refine at_keep (Keep.cons 0 rfl (Keep.cons 1 rfl (Keep.cons 2 rfl Keep.nil))) ?_
  refine at_seq ?_
  refine at_region ?_
  refine wl_read rfl rfl rfl (yl_assign rfl rfl) ?_
  refine wl_nil ?_
  refine at_keep (Keep.cons 0 rfl (Keep.cons 1 rfl (Keep.cons 2 rfl (Keep.cons 3 rfl Keep.nil)))) ?_
  refine at_seq ?_
  refine at_region ?_
  refine wl_read rfl rfl rfl (yl_move rfl rfl) ?_
  refine wl_read rfl rfl rfl (yl_fieldB rfl rfl Try.underlying45 rfl (by kernel_rfl) rfl) ?_
  refine wl_read rfl rfl rfl (yl_load rfl rfl Try.underlying3 rfl (CellAt.bk 0 rfl rfl)) ?_
  refine wl_call rfl rfl rfl (en_call rfl rfl) (at_nil 0 _ _ _) ?_
  rintro _ _ ⟨rfl, rfl⟩
  refine wl_read rfl rfl rfl (yl_move rfl rfl) ?_
  refine wl_read rfl rfl rfl (yl_extract rfl rfl rfl) ?_
  refine wl_read rfl rfl rfl (yl_extract rfl rfl rfl) ?_
  refine wl_eff rfl rfl rfl (ef_alloc (cs := [.int .i64 0, .int .i64 0, .slice none 0 0]) (z := .agg #[.int .i64 0, .int .i64 0, .slice none 0 0]) rfl (by kernel_rfl) rfl) ?_
  rintro _ _ ⟨g4, rfl, rfl⟩
  refine wl_store rfl rfl (es_at0 (es_storeN 0 rfl rfl rfl rfl (by kernel_rfl) rfl rfl)) ?_
  refine wl_read rfl rfl rfl (yl_assign rfl rfl) ?_
  refine wl_nil ?_
  refine at_keep (Keep.cons 0 rfl (Keep.cons 1 rfl (Keep.cons 2 rfl (Keep.cons 3 rfl (Keep.cons 5 rfl Keep.nil))))) ?_
  refine at_seq ?_
  refine at_region ?_
  refine wl_read rfl rfl rfl (yl_move rfl rfl) ?_
  refine wl_read rfl rfl rfl (yl_fieldB rfl rfl Try.underlying45 rfl (by kernel_rfl) rfl) ?_
  refine wl_read rfl rfl rfl (yl_load rfl rfl Try.underlying3 rfl (CellAt.bk 1 rfl rfl)) ?_
  refine wl_call rfl rfl rfl (en_call rfl rfl) (deliver_nil _ _ _) ?_
  rintro _ _ ⟨rfl, rfl⟩
  refine wl_read rfl rfl rfl (yl_move rfl rfl) ?_
  refine wl_read rfl rfl rfl (yl_extract rfl rfl rfl) ?_
  refine wl_read rfl rfl rfl (yl_extract rfl rfl rfl) ?_
  refine wl_eff rfl rfl rfl (ef_alloc (cs := [.int .i64 0, .int .i64 0, .slice none 0 0]) (z := .agg #[.int .i64 0, .int .i64 0, .slice none 0 0]) rfl (by kernel_rfl) rfl) ?_
  rintro _ _ ⟨g6, rfl, rfl⟩
  refine wl_store rfl rfl (es_at0 (es_storeN 0 rfl rfl rfl rfl (by kernel_rfl) rfl rfl)) ?_
  refine wl_read rfl rfl rfl (yl_assign rfl rfl) ?_
  refine wl_nil ?_
  refine at_keep (Keep.cons 0 rfl (Keep.cons 1 rfl (Keep.cons 2 rfl (Keep.cons 3 rfl (Keep.cons 5 rfl (Keep.cons 7 rfl Keep.nil)))))) ?_
  refine at_seq ?_
  refine at_region ?_
  refine wl_read rfl rfl rfl (yl_move rfl rfl) ?_
  refine wl_call rfl rfl rfl (en_call rfl rfl) (counts_nil _ _) ?_
  rintro _ _ ⟨rfl, rfl⟩
  refine wl_read rfl rfl rfl (yl_move rfl rfl) ?_
  refine wl_read rfl rfl rfl (yl_extract rfl rfl rfl) ?_
  refine wl_read rfl rfl rfl (yl_extract rfl rfl rfl) ?_
  refine wl_read rfl rfl rfl (yl_extract rfl rfl rfl) ?_
  refine wl_read rfl rfl rfl (yl_extract rfl rfl rfl) ?_
  refine wl_read rfl rfl rfl (yl_assign rfl rfl) ?_
  refine wl_read rfl rfl rfl (yl_assign rfl rfl) ?_
  refine wl_read rfl rfl rfl (yl_assign rfl rfl) ?_
  refine wl_read rfl rfl rfl (yl_assign rfl rfl) ?_
  refine wl_nil ?_
  refine at_keep (Keep.cons 0 rfl (Keep.cons 1 rfl (Keep.cons 2 rfl (Keep.cons 3 rfl (Keep.cons 5 rfl (Keep.cons 7 rfl (Keep.cons 8 rfl (Keep.cons 9 rfl (Keep.cons 10 rfl (Keep.cons 11 rfl Keep.nil)))))))))) ?_
  refine at_seq ?_
  refine at_region ?_
  refine wl_call rfl rfl rfl (en_call rfl rfl) (awake_fn _ _) ?_
  rintro _ _ ⟨rfl, rfl⟩
  refine wl_read rfl rfl rfl (yl_move rfl rfl) ?_
  refine wl_read rfl rfl rfl (yl_move rfl rfl) ?_
  refine wl_eff rfl rfl rfl (ef_buildSlice (e := 5) [(1 : UInt8)] rfl rfl (fun _ => by kernel_rfl) rfl rfl) ?_
  rintro _ _ ⟨T5_3, rfl, rfl⟩
  refine wl_call rfl rfl rfl (en_call rfl rfl) (send_nil 0 1 [(1 : UInt8)] _ _ _ _) ?_
  rintro _ _ ⟨rfl, rfl⟩
  refine wl_read rfl rfl rfl ((yp_eql rfl rfl rfl).1 rfl) ?_
  refine wl_read rfl rfl rfl (yl_pickT rfl rfl rfl) ?_
  refine wl_read rfl rfl rfl (yl_move rfl rfl) ?_
  refine wl_read rfl rfl rfl (yl_move rfl rfl) ?_
  refine wl_read rfl rfl rfl (yl_notF rfl rfl) ?_
  refine wl_read rfl rfl rfl (yl_pickT rfl rfl rfl) ?_
  refine wl_read rfl rfl rfl (yl_move rfl rfl) ?_
  refine wl_read rfl rfl rfl (yl_move rfl rfl) ?_
  refine wl_read rfl rfl rfl (yl_notF rfl rfl) ?_
  refine wl_read rfl rfl rfl (yl_pickT rfl rfl rfl) ?_
  refine wl_read rfl rfl rfl (yl_move rfl rfl) ?_
  refine wl_read rfl rfl rfl (yl_move rfl rfl) ?_
  refine wl_read rfl rfl rfl (yl_fieldB rfl rfl Try.underlying45 rfl (by kernel_rfl) rfl) ?_
  refine wl_read rfl rfl rfl (yl_load rfl rfl Try.underlying3 rfl (CellAt.bk 3 rfl rfl)) ?_
  refine wl_call rfl rfl rfl (en_call rfl rfl) (lose_nil _ _ _) ?_
  rintro _ _ ⟨rfl, rfl⟩
  refine wl_read rfl rfl rfl (yl_notF rfl rfl) ?_
  refine wl_read rfl rfl rfl (yl_pickT rfl rfl rfl) ?_
  refine wl_read rfl rfl rfl (yl_move rfl rfl) ?_
  refine wl_read rfl rfl rfl (yl_move rfl rfl) ?_
  refine wl_read rfl rfl rfl (yl_fieldB rfl rfl Try.underlying45 rfl (by kernel_rfl) rfl) ?_
  refine wl_read rfl rfl rfl (yl_load rfl rfl Try.underlying3 rfl (CellAt.bk 3 rfl rfl)) ?_
  refine wl_call rfl rfl rfl (en_call rfl rfl) (repeat_nil _ _ _) ?_
  rintro _ _ ⟨rfl, rfl⟩
  refine wl_read rfl rfl rfl ((yp_eql rfl rfl rfl).1 rfl) ?_
  refine wl_read rfl rfl rfl (yl_pickT rfl rfl rfl) ?_
  refine wl_read rfl rfl rfl (yl_move rfl rfl) ?_
  refine wl_read rfl rfl rfl (yl_move rfl rfl) ?_
  refine wl_call rfl rfl rfl (en_call rfl rfl) (len_nil _ _) ?_
  rintro _ _ ⟨rfl, rfl⟩
  refine wl_read rfl rfl rfl ((yp_eql rfl rfl rfl).1 rfl) ?_
  refine wl_read rfl rfl rfl (yl_pickT rfl rfl rfl) ?_
  refine wl_read rfl rfl rfl (yl_move rfl rfl) ?_
  refine wl_read rfl rfl rfl (yl_move rfl rfl) ?_
  refine wl_read rfl rfl rfl (yl_move rfl rfl) ?_
  refine wl_read rfl rfl rfl (yl_add rfl rfl rfl (w64 (by omega) (by omega))) ?_
  refine wl_read rfl rfl rfl (yl_move rfl rfl) ?_
  refine wl_read rfl rfl rfl (yl_add rfl rfl rfl (w64 (by omega) (by omega))) ?_
  refine wl_read rfl rfl rfl (yl_move rfl rfl) ?_
  refine wl_read rfl rfl rfl (yl_add rfl rfl rfl (w64 (by omega) (by omega))) ?_
  refine wl_read rfl rfl rfl ((yp_eql rfl rfl rfl).1 rfl) ?_
  refine wl_read rfl rfl rfl (yl_pickT rfl rfl rfl) ?_
  refine wl_read rfl rfl rfl (yl_move rfl rfl) ?_
  refine wl_read rfl rfl rfl (yl_move rfl rfl) ?_
  refine wl_call rfl rfl rfl (en_call rfl rfl) (fork_nil _ _) ?_
  rintro _ _ ⟨rfl, rfl⟩
  refine wl_read rfl rfl rfl (yl_eqPtr rfl rfl rfl (by kernel_rfl) rfl) ?_
  refine wl_read rfl rfl rfl (yl_pickT rfl rfl rfl) ?_
  refine wl_read rfl rfl rfl (yl_assign rfl rfl) ?_
  refine wl_nil ?_
  refine at_keep (Keep.cons 0 rfl (Keep.cons 1 rfl (Keep.cons 2 rfl (Keep.cons 3 rfl (Keep.cons 5 rfl (Keep.cons 7 rfl (Keep.cons 8 rfl (Keep.cons 9 rfl (Keep.cons 10 rfl (Keep.cons 11 rfl Keep.nil)))))))))) ?_
  refine at_retH (fun _ hw => hw.tail.tail.tail.tail) Try.func10 (res1 rfl rfl) ?_
  exact ⟨rfl, rfl⟩
end Go.Proofs.Ytcpcgllkdpfacaa

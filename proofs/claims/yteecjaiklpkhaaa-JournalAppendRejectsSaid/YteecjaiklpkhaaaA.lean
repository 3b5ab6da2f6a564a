/- Walks of the helpers and of both checksums. -/
import Derived.Test.YteecjaiklpkhaaaM
namespace Go.Proofs.Yteecjaiklpkhaaa
open Go

theorem info5 : (Try.prog.info? 5).map (fun i => (i.zero, i.size, i.bytes)) = some (some (.int .u8 0), Enc.size UInt8, 1) := by kernel_rfl
theorem info58 : (Try.prog.info? 58).map (fun i => (i.zero, i.size, i.bytes)) = some (some (.agg #[.int .i64 0, .int .i64 0]), Enc.size Sp, 16) := by kernel_rfl
theorem info30 : (Try.prog.info? 30).map (fun i => (i.zero, i.size, i.bytes)) = some (some (.slice none 0 0), Enc.size (Mem UInt8), 24) := by kernel_rfl
theorem shr_nat (x s : Nat) : ((x : Nat) : Int) / 2 ^ s = ((x / 2 ^ s : Nat) : Int) := by rw [Int.natCast_ediv, Int.natCast_pow]; rfl
theorem shr_to (x s : Nat) : ((x : Nat) : Int) / 2 ^ (((s : Nat) : Int)).toNat = ((x / 2 ^ s : Nat) : Int) := shr_nat x s
theorem bit_odd {x : Nat} (hx : x < 4294967296) (h : x % 2 = 1) : bits .xor .u32 ((x / 2 : Nat) : Int) 3988292384 = ((stp x : Nat) : Int) := by
  have := u32_xor_nat (x / 2) 3988292384 (by omega) (by decide)
  unfold stp; rw [if_pos h]; exact this
theorem bit_even {x : Nat} (h : ¬ x % 2 = 1) : x / 2 = stp x := by unfold stp; rw [if_neg h]
theorem low1 {x : Nat} (hx : x < 4294967296) : bits .and .u32 ((x : Nat) : Int) 1 = ((x % 2 : Nat) : Int) := by
  have := u32_and_nat x 1 hx (by decide)
  rw [Nat.and_one_is_mod] at this; exact this
theorem wrap32 {x : Nat} (hx : x < 4294967296) : IntKind.u32.wrap ((x : Nat) : Int) = ((x : Nat) : Int) := by rw [IntKind.wrap_u32']; omega
theorem wrapu64 {x : Nat} (hx : x < 4294967296) : IntKind.u64.wrap ((x : Nat) : Int) = ((x : Nat) : Int) := by simp [IntKind.wrap, IntKind.bits, IntKind.signed]; omega
/-- The table of the program, its first i rows written. -/
def tb (i : Nat) : List Value := (List.range 256).map fun m => .int .u32 (if m < i then ((stpn 8 m : Nat) : Int) else 0)
theorem tb_len (i : Nat) : (tb i).length = 256 := by simp [tb]
theorem tb_blt {i : Nat} (n : Nat) (h : i < 256) : Nat.blt i (tb n).length = true := by rw [tb_len, Nat.blt_eq]; exact h
theorem tb_set {i : Nat} (h : i < 256) : (tb i).set i (.int .u32 ((stpn 8 i : Nat) : Int)) = tb (i + 1) := by
  apply List.ext_getElem?
  intro j
  rw [List.getElem?_set]
  rcases Nat.lt_or_ge j 256 with hj | hj
  · have e : ∀ n, (tb n)[j]? = some (.int .u32 (if j < n then ((stpn 8 j : Nat) : Int) else 0)) := fun n => by simp [tb, hj]
    rw [e, e]
    by_cases hij : i = j
    · subst hij; rw [if_pos rfl, if_pos (by rw [tb_len]; exact h), if_pos (by omega)]
    · rw [if_neg hij]
      by_cases h2 : j < i
      · rw [if_pos h2, if_pos (by omega)]
      · rw [if_neg h2, if_neg (by omega)]
  · rw [List.getElem?_eq_none (by rw [tb_len]; omega), List.getElem?_eq_none (by rw [tb_len]; omega), if_neg (by omega)]
theorem tb_get {j : Nat} (h : j < 256) : (tb 256)[j]? = some (.int .u32 ((stpn 8 j : Nat) : Int)) := by simp [tb, h]
theorem tb_one : ((tb 256).all fun u => u.oneCell') = true := by kernel_rfl
theorem xor256 {a b : Nat} (ha : a < 256) (hb : b < 256) : a ^^^ b < 256 := Nat.xor_lt_two_pow (n := 8) (by omega) (by omega)

theorem mod_fn (n m : Int) (b : World) (H : List Asr) (hm : 0 < m) (hm2 : m ≤ 4611686018427387904) : Fn Try.prog 24 [.int .i64 n, .int .i64 m] b H (fun v H' => v = .int .i64 (md n m) ∧ H = H') := by
  have hb1 := Int.tmod_lt_of_pos n hm
  have hb2 : -m < n.tmod m := by
    have := Int.tmod_lt_of_pos (-n) hm
    rw [Int.neg_tmod] at this
    omega
  refine fn_of_at (by kernel_rfl) Try.func24 rfl Try.ntmps24 rfl rfl ?_
  refine at_seq ?_
  refine at_region ?_
  refine wl_read rfl rfl rfl (yl_assign rfl rfl) ?_
  refine wl_nil ?_
  refine at_keep (Keep.cons 0 rfl (Keep.cons 1 rfl (Keep.cons 4 rfl Keep.nil))) ?_
  refine at_seq ?_
  refine at_region ?_
  refine wl_read rfl rfl rfl (yl_move rfl rfl) ?_
  refine wl_read rfl rfl rfl (yl_move rfl rfl) ?_
  refine wl_read rfl rfl rfl (yl_rem rfl rfl rfl (by omega) rfl) ?_
  refine wl_read rfl rfl rfl (yl_assign rfl rfl) ?_
  refine wl_nil ?_
  refine at_keep (Keep.cons 0 rfl (Keep.cons 1 rfl (Keep.cons 4 rfl (Keep.cons 5 rfl Keep.nil)))) ?_
  refine at_seq ?_
  refine at_seq ?_
  refine at_region ?_
  refine wl_read rfl rfl rfl (yl_move rfl rfl) ?_
  refine wl_split rfl rfl rfl (yp_lss rfl rfl rfl) ?_ ?_
  · intro h2_1
    refine wl_nil ?_
    refine at_keep (Keep.cons 0 rfl (Keep.cons 1 rfl (Keep.cons 4 rfl (Keep.cons 5 rfl (Keep.cons 10 rfl Keep.nil))))) ?_
    refine at_true rfl ?_
    refine at_region ?_
    refine wl_read rfl rfl rfl (yl_move rfl rfl) ?_
    refine wl_read rfl rfl rfl (yl_move rfl rfl) ?_
    refine wl_read rfl rfl rfl (yl_add rfl rfl rfl (w64 (by omega) (by omega))) ?_
    refine wl_read rfl rfl rfl (yl_assign rfl rfl) ?_
    refine wl_nil ?_
    refine at_keep (Keep.cons 0 rfl (Keep.cons 1 rfl (Keep.cons 4 rfl (Keep.cons 5 rfl (Keep.cons 10 rfl Keep.nil))))) ?_
    refine at_seq ?_
    refine at_region ?_
    refine wl_read rfl rfl rfl (yl_move rfl rfl) ?_
    refine wl_read rfl rfl rfl (yl_assign rfl rfl) ?_
    refine wl_nil ?_
    refine at_keep (Keep.cons 0 rfl (Keep.cons 1 rfl (Keep.cons 4 rfl (Keep.cons 5 rfl (Keep.cons 10 rfl Keep.nil))))) ?_
    refine at_ret Try.func24 (res1 rfl rfl) ?_
    exact ⟨by unfold md; rw [if_pos h2_1], rfl⟩
  · intro h2_1
    refine wl_nil ?_
    refine at_keep (Keep.cons 0 rfl (Keep.cons 1 rfl (Keep.cons 4 rfl (Keep.cons 5 rfl (Keep.cons 10 rfl Keep.nil))))) ?_
    refine at_false rfl ?_
    refine at_skip ?_
    refine at_seq ?_
    refine at_region ?_
    refine wl_read rfl rfl rfl (yl_move rfl rfl) ?_
    refine wl_read rfl rfl rfl (yl_assign rfl rfl) ?_
    refine wl_nil ?_
    refine at_keep (Keep.cons 0 rfl (Keep.cons 1 rfl (Keep.cons 4 rfl (Keep.cons 5 rfl (Keep.cons 10 rfl Keep.nil))))) ?_
    refine at_ret Try.func24 (res1 rfl rfl) ?_
    exact ⟨by unfold md; rw [if_neg h2_1], rfl⟩
theorem clone_fn (xs : List UInt8) (A : Option Addr) (c : Nat) (b : World) (H : List Asr) (hR : Rd H A xs) (hl : xs.length ≤ 100000000) :
    Fn Try.prog 32 [.slice A xs.length c] b H (fun v H' => ∃ A' c', v = .slice A' xs.length c' ∧ H' = Sl A' c' 5 xs :: H) := by
  refine Fn.know (by kernel_rfl) (p := A = none → xs = []) (fun w hw hA => Classical.byContradiction fun hx => by obtain ⟨ad, e, _⟩ := hR b w hw hx; rw [hA] at e; cases e) (fun hA => ?_)
  cases A with
  | none =>
    obtain rfl := hA rfl
    refine fn_of_at (by kernel_rfl) Try.func32 rfl Try.ntmps32 rfl rfl ?_
    refine at_seq ?_
    refine at_region ?_
    refine wl_read rfl rfl rfl (yl_assign rfl rfl) ?_
    refine wl_nil ?_
    refine at_keep (Keep.cons 0 rfl (Keep.cons 2 rfl Keep.nil)) ?_
    refine at_seq ?_
    refine at_seq ?_
    refine at_region ?_
    refine wl_read rfl rfl rfl (yl_move rfl rfl) ?_
    refine wl_read rfl rfl rfl (yl_eqSlice rfl rfl rfl Try.underlying30 rfl) ?_
    refine wl_nil ?_
    refine at_keep (Keep.cons 0 rfl (Keep.cons 2 rfl (Keep.cons 4 rfl Keep.nil))) ?_
    refine at_true rfl ?_
    refine at_seq ?_
    refine at_region ?_
    refine wl_read rfl rfl rfl (yl_assign rfl rfl) ?_
    refine wl_nil ?_
    refine at_keep (Keep.cons 0 rfl (Keep.cons 2 rfl (Keep.cons 4 rfl Keep.nil))) ?_
    refine at_retH (fun _ hw => hw.nilSl (α := UInt8) 5) Try.func32 (res1 rfl rfl) ?_
    exact ⟨none, 0, rfl, rfl⟩
  | some ad =>
    refine fn_of_at (by kernel_rfl) Try.func32 rfl Try.ntmps32 rfl rfl ?_
    refine at_seq ?_
    refine at_region ?_
    refine wl_read rfl rfl rfl (yl_assign rfl rfl) ?_
    refine wl_nil ?_
    refine at_keep (Keep.cons 0 rfl (Keep.cons 2 rfl Keep.nil)) ?_
    refine at_seq ?_
    refine at_seq ?_
    refine at_region ?_
    refine wl_read rfl rfl rfl (yl_move rfl rfl) ?_
    refine wl_read rfl rfl rfl (yl_eqSlice rfl rfl rfl Try.underlying30 rfl) ?_
    refine wl_nil ?_
    refine at_keep (Keep.cons 0 rfl (Keep.cons 2 rfl (Keep.cons 4 rfl Keep.nil))) ?_
    refine at_false rfl ?_
    refine at_skip ?_
    refine at_seq ?_
    refine at_region ?_
    refine wl_eff rfl rfl rfl (ef_buildSlice (e := 5) ([] : List UInt8) rfl rfl (fun _ => by kernel_rfl) rfl rfl) ?_
    rintro _ _ ⟨T3_0, rfl, rfl⟩
    refine wl_read rfl rfl rfl (yl_move rfl rfl) ?_
    refine wl_eff rfl rfl rfl (ef_append (ys := xs) 0 rfl rfl rfl rfl (hR.cons _) Try.underlying30 info5 rfl rfl (by simp only [List.length_nil, maxLen]; omega) (by simp only [List.length_nil]; omega)) ?_
    rintro _ _ ⟨A2, c2, rfl, hH⟩
    simp only [List.set_cons_succ, List.set_cons_zero] at hH; subst hH
    refine wl_read rfl rfl rfl (yl_assign rfl rfl) ?_
    refine wl_nil ?_
    refine at_keep (Keep.cons 0 rfl (Keep.cons 2 rfl (Keep.cons 4 rfl Keep.nil))) ?_
    refine at_ret Try.func32 (res1 rfl rfl) ?_
    exact ⟨A2, c2, rfl, rfl⟩
theorem cloneS_fn (xs : List Sp) (A : Option Addr) (c : Nat) (b : World) (H : List Asr) (hR : Rd H A xs) (hl : xs.length ≤ 1000000) :
    Fn Try.prog 33 [.slice A xs.length c] b H (fun v H' => ∃ A' c', v = .slice A' xs.length c' ∧ H' = Sl A' c' 58 xs :: H) := by
  refine Fn.know (by kernel_rfl) (p := A = none → xs = []) (fun w hw hA => Classical.byContradiction fun hx => by obtain ⟨ad, e, _⟩ := hR b w hw hx; rw [hA] at e; cases e) (fun hA => ?_)
  cases A with
  | none =>
    obtain rfl := hA rfl
    refine fn_of_at (by kernel_rfl) Try.func33 rfl Try.ntmps33 rfl rfl ?_
    refine at_seq ?_
    refine at_region ?_
    refine wl_read rfl rfl rfl (yl_assign rfl rfl) ?_
    refine wl_nil ?_
    refine at_keep (Keep.cons 0 rfl (Keep.cons 2 rfl Keep.nil)) ?_
    refine at_seq ?_
    refine at_seq ?_
    refine at_region ?_
    refine wl_read rfl rfl rfl (yl_move rfl rfl) ?_
    refine wl_read rfl rfl rfl (yl_eqSlice rfl rfl rfl Try.underlying53 rfl) ?_
    refine wl_nil ?_
    refine at_keep (Keep.cons 0 rfl (Keep.cons 2 rfl (Keep.cons 4 rfl Keep.nil))) ?_
    refine at_true rfl ?_
    refine at_seq ?_
    refine at_region ?_
    refine wl_read rfl rfl rfl (yl_assign rfl rfl) ?_
    refine wl_nil ?_
    refine at_keep (Keep.cons 0 rfl (Keep.cons 2 rfl (Keep.cons 4 rfl Keep.nil))) ?_
    refine at_retH (fun _ hw => hw.nilSl (α := Sp) 58) Try.func33 (res1 rfl rfl) ?_
    exact ⟨none, 0, rfl, rfl⟩
  | some ad =>
    refine fn_of_at (by kernel_rfl) Try.func33 rfl Try.ntmps33 rfl rfl ?_
    refine at_seq ?_
    refine at_region ?_
    refine wl_read rfl rfl rfl (yl_assign rfl rfl) ?_
    refine wl_nil ?_
    refine at_keep (Keep.cons 0 rfl (Keep.cons 2 rfl Keep.nil)) ?_
    refine at_seq ?_
    refine at_seq ?_
    refine at_region ?_
    refine wl_read rfl rfl rfl (yl_move rfl rfl) ?_
    refine wl_read rfl rfl rfl (yl_eqSlice rfl rfl rfl Try.underlying53 rfl) ?_
    refine wl_nil ?_
    refine at_keep (Keep.cons 0 rfl (Keep.cons 2 rfl (Keep.cons 4 rfl Keep.nil))) ?_
    refine at_false rfl ?_
    refine at_skip ?_
    refine at_seq ?_
    refine at_region ?_
    refine wl_eff rfl rfl rfl (ef_buildSlice (e := 58) ([] : List Sp) rfl rfl (fun _ => by kernel_rfl) rfl rfl) ?_
    rintro _ _ ⟨T3_0, rfl, rfl⟩
    refine wl_read rfl rfl rfl (yl_move rfl rfl) ?_
    refine wl_eff rfl rfl rfl (ef_append (ys := xs) 0 rfl rfl rfl rfl (hR.cons _) Try.underlying53 info58 rfl rfl (by simp only [List.length_nil, maxLen]; omega) (by simp only [List.length_nil]; omega)) ?_
    rintro _ _ ⟨A2, c2, rfl, hH⟩
    simp only [List.set_cons_succ, List.set_cons_zero] at hH; subst hH
    refine wl_read rfl rfl rfl (yl_assign rfl rfl) ?_
    refine wl_nil ?_
    refine at_keep (Keep.cons 0 rfl (Keep.cons 2 rfl (Keep.cons 4 rfl Keep.nil))) ?_
    refine at_ret Try.func33 (res1 rfl rfl) ?_
    exact ⟨A2, c2, rfl, rfl⟩
theorem bytes_fn (xs ys : List UInt8) (A A2 : Option Addr) (c c2 : Nat) (b : World) (H : List Asr) (hR : Rd H A xs) (hR2 : Rd H A2 ys) : Fn Try.prog 15 [.slice A xs.length c, .slice A2 ys.length c2] b H (fun v H' => v = .bool (decide (xs = ys)) ∧ H = H') := by
  refine fn_of_at (by kernel_rfl) Try.func15 rfl Try.ntmps15 rfl rfl ?_
  refine at_seq ?_
  refine at_region ?_
  refine wl_read rfl rfl rfl (yl_assign rfl rfl) ?_
  refine wl_nil ?_
  refine at_keep (Keep.cons 0 rfl (Keep.cons 1 rfl (Keep.cons 4 rfl Keep.nil))) ?_
  refine at_seq ?_
  refine at_region ?_
  refine wl_read rfl rfl rfl (yl_move rfl rfl) ?_
  refine wl_read rfl rfl rfl (yl_string rfl rfl hR Try.underlying30 Try.underlying5 Try.underlying9) ?_
  refine wl_read rfl rfl rfl (yl_move rfl rfl) ?_
  refine wl_read rfl rfl rfl (yl_string rfl rfl hR2 Try.underlying30 Try.underlying5 Try.underlying9) ?_
  refine wl_split rfl rfl rfl (yp_eqStr rfl rfl rfl) ?_ ?_
  · intro h1_4
    refine wl_read rfl rfl rfl (yl_assign rfl rfl) ?_
    refine wl_nil ?_
    refine at_keep (Keep.cons 0 rfl (Keep.cons 1 rfl (Keep.cons 4 rfl Keep.nil))) ?_
    refine at_ret Try.func15 (res1 rfl rfl) ?_
    exact ⟨by rw [decide_eq_true h1_4], rfl⟩
  · intro h1_4
    refine wl_read rfl rfl rfl (yl_assign rfl rfl) ?_
    refine wl_nil ?_
    refine at_keep (Keep.cons 0 rfl (Keep.cons 1 rfl (Keep.cons 4 rfl Keep.nil))) ?_
    refine at_ret Try.func15 (res1 rfl rfl) ?_
    exact ⟨by rw [decide_eq_false h1_4], rfl⟩
theorem equal_fn (xs ys : List UInt8) (A A2 : Option Addr) (c c2 : Nat) (b : World) (H : List Asr) (hR : Rd H A xs) (hR2 : Rd H A2 ys) : Fn Try.prog 40 [.slice A xs.length c, .slice A2 ys.length c2] b H (fun v H' => v = .bool (decide (xs = ys)) ∧ H = H') := by
  refine fn_of_at (by kernel_rfl) Try.func40 rfl Try.ntmps40 rfl rfl ?_
  refine at_seq ?_
  refine at_region ?_
  refine wl_read rfl rfl rfl (yl_assign rfl rfl) ?_
  refine wl_nil ?_
  refine at_keep (Keep.cons 0 rfl (Keep.cons 1 rfl (Keep.cons 4 rfl Keep.nil))) ?_
  refine at_seq ?_
  refine at_region ?_
  refine wl_read rfl rfl rfl (yl_move rfl rfl) ?_
  refine wl_read rfl rfl rfl (yl_string rfl rfl hR Try.underlying30 Try.underlying5 Try.underlying9) ?_
  refine wl_read rfl rfl rfl (yl_move rfl rfl) ?_
  refine wl_read rfl rfl rfl (yl_string rfl rfl hR2 Try.underlying30 Try.underlying5 Try.underlying9) ?_
  refine wl_split rfl rfl rfl (yp_eqStr rfl rfl rfl) ?_ ?_
  · intro h1_4
    refine wl_read rfl rfl rfl (yl_assign rfl rfl) ?_
    refine wl_nil ?_
    refine at_keep (Keep.cons 0 rfl (Keep.cons 1 rfl (Keep.cons 4 rfl Keep.nil))) ?_
    refine at_ret Try.func40 (res1 rfl rfl) ?_
    exact ⟨by rw [decide_eq_true h1_4], rfl⟩
  · intro h1_4
    refine wl_read rfl rfl rfl (yl_assign rfl rfl) ?_
    refine wl_nil ?_
    refine at_keep (Keep.cons 0 rfl (Keep.cons 1 rfl (Keep.cons 4 rfl Keep.nil))) ?_
    refine at_ret Try.func40 (res1 rfl rfl) ?_
    exact ⟨by rw [decide_eq_false h1_4], rfl⟩
theorem lists_fn (xs ys : List (Mem UInt8)) (A A2 : Option Addr) (c c2 : Nat) (b : World) (H : List Asr) (hR : Rd H A xs) (hR2 : Rd H A2 ys) (hE : ∀ m, m ∈ xs → Rd H m.A m.xs) (hE2 : ∀ m, m ∈ ys → Rd H m.A m.xs) (heq : recs xs = recs ys) (hbig : xs.length ≤ 1000000) :
    Fn Try.prog 28 [.slice A xs.length c, .slice A2 ys.length c2] b H (fun v H' => v = .bool true ∧ H = H') := by
  have hl : xs.length = ys.length := by have := congrArg List.length heq; simpa [recs] using this
  have hat : ∀ j, j < xs.length → (at_ xs j).xs = (at_ ys j).xs := fun j hj => by
    have h1 : (recs xs)[j]? = (recs ys)[j]? := by rw [heq]
    unfold recs at h1
    rw [List.getElem?_map, List.getElem?_map, at_some hj, at_some (show j < ys.length by omega)] at h1
    simpa using h1
  refine fn_of_at (by kernel_rfl) Try.func28 rfl Try.ntmps28 rfl rfl ?_
  refine at_seq ?_
  refine at_region ?_
  refine wl_read rfl rfl rfl (yl_assign rfl rfl) ?_
  refine wl_nil ?_
  refine at_keep (Keep.cons 0 rfl (Keep.cons 1 rfl (Keep.cons 4 rfl Keep.nil))) ?_
  refine at_seq ?_
  refine at_seq ?_
  refine at_region ?_
  refine wl_read rfl rfl rfl (yl_move rfl rfl) ?_
  refine wl_read rfl rfl rfl (yl_len rfl rfl Try.underlying22) ?_
  refine wl_read rfl rfl rfl (yl_move rfl rfl) ?_
  refine wl_read rfl rfl rfl (yl_len rfl rfl Try.underlying22) ?_
  refine wl_read rfl rfl rfl ((yp_neq rfl rfl rfl).2 (by omega)) ?_
  refine wl_nil ?_
  refine at_keep (Keep.cons 0 rfl (Keep.cons 1 rfl (Keep.cons 4 rfl (Keep.cons 10 rfl Keep.nil)))) ?_
  refine at_false rfl ?_
  refine at_skip ?_
  refine at_seq ?_
  refine at_seq ?_
  refine at_region ?_
  refine wl_read rfl rfl rfl (yl_assign rfl rfl) ?_
  refine wl_nil ?_
  refine at_keep (Keep.cons 0 rfl (Keep.cons 1 rfl (Keep.cons 4 rfl (Keep.cons 5 rfl (Keep.cons 10 rfl Keep.nil))))) ?_
  refine at_block ?_
  refine at_keep (L' := (fun (j : Nat) => [(0, .slice A xs.length c), (1, .slice A2 ys.length c2), (5, .int .i64 (j : Int))]) 0) (Keep.consEq 0 rfl rfl (Keep.consEq 1 rfl rfl (Keep.consEq 5 rfl rfl Keep.nil))) ?_
  refine at_loop1 (fun (j : Nat) => j ≤ xs.length) (fun (j : Nat) => [(0, .slice A xs.length c), (1, .slice A2 ys.length c2), (5, .int .i64 (j : Int))]) (fun (j : Nat) => H) (fun (j : Nat) => xs.length - j) 0 (by omega) ?_
  intro j hI ih
  refine at_seq ?_
  refine at_seq ?_
  refine at_region ?_
  refine wl_read rfl rfl rfl (yl_move rfl rfl) ?_
  refine wl_read rfl rfl rfl (yl_move rfl rfl) ?_
  refine wl_read rfl rfl rfl (yl_len rfl rfl Try.underlying22) ?_
  refine wl_split rfl rfl rfl (yp_lss rfl rfl rfl) ?_ ?_
  · intro h4_3
    refine wl_nil ?_
    refine at_keep (Keep.cons 0 rfl (Keep.cons 1 rfl (Keep.cons 5 rfl (Keep.cons 14 rfl Keep.nil)))) ?_
    refine at_true rfl ?_
    refine at_skip ?_
    refine at_seq ?_
    refine at_block ?_
    refine at_seq ?_
    have hj : j < xs.length := by omega
    have hj2 : j < ys.length := by omega
    refine at_draw0 (.fl 0 (.fl 1 (.fl 2 (.fl 3 (.fl 4 (.fl 5 (.fl 6 (.fl 7 (.ef 8 (.fl 9 .nil)))))))))) (by kernel_rfl) (by kernel_rfl) ?_
    refine wt_read rfl rfl rfl rfl (yl_move rfl rfl) ?_
    refine wt_read rfl rfl rfl rfl (yl_move rfl rfl) ?_
    refine wt_read rfl rfl rfl rfl (yl_index rfl rfl rfl hR (at_some hj) rfl rfl Try.underlying22 (by kernel_rfl) rfl) ?_
    refine wt_read rfl rfl rfl rfl (yl_load rfl rfl Try.underlying30 rfl (hR.cell2 (at_some hj) (i := 0) rfl)) ?_
    refine wt_read rfl rfl rfl rfl (yl_move rfl rfl) ?_
    refine wt_read rfl rfl rfl rfl (yl_move rfl rfl) ?_
    refine wt_read rfl rfl rfl rfl (yl_index rfl rfl rfl hR2 (at_some hj2) rfl rfl Try.underlying22 (by kernel_rfl) rfl) ?_
    refine wt_read rfl rfl rfl rfl (yl_load rfl rfl Try.underlying30 rfl (hR2.cell2 (at_some hj2) (i := 0) rfl)) ?_
    refine wt_call rfl rfl rfl rfl (en_call rfl rfl) (bytes_fn (at_ xs j).xs (at_ ys j).xs _ _ _ _ _ _ (hE _ (at_in hj)) (hE2 _ (at_in hj2))) ?_
    rintro _ _ ⟨rfl, rfl⟩
    refine ⟨⟨[], rfl⟩, ?_⟩
    rw [decide_eq_true (hat j hj)]
    refine wt_read rfl rfl rfl rfl (yl_notT rfl rfl) ?_
    refine wt_nil ?_
    refine at_keep (Keep.cons 0 rfl (Keep.cons 1 rfl (Keep.cons 5 rfl (Keep.cons 14 rfl (Keep.cons 26 rfl Keep.nil))))) ?_
    refine at_false rfl ?_
    refine at_skip ?_
    refine at_inBlock ?_
    refine at_region ?_
    refine wl_read rfl rfl rfl (yl_move rfl rfl) ?_
    refine wl_read rfl rfl rfl (yl_add rfl rfl rfl (w64 (by omega) (by omega))) ?_
    refine wl_read rfl rfl rfl (yl_assign rfl rfl) ?_
    refine wl_nil ?_
    refine at_keep (Keep.cons 0 rfl (Keep.cons 1 rfl (Keep.cons 5 rfl (Keep.cons 14 rfl (Keep.cons 26 rfl Keep.nil))))) ?_
    exact at_keep (L' := (fun (j : Nat) => [(0, .slice A xs.length c), (1, .slice A2 ys.length c2), (5, .int .i64 (j : Int))]) (j + 1)) (Keep.consEq 0 rfl rfl (Keep.consEq 1 rfl rfl (Keep.consEq 5 rfl rfl Keep.nil))) (ih (j + 1) (by omega) (by omega))
  · intro h4_3
    refine wl_nil ?_
    refine at_keep (Keep.cons 0 rfl (Keep.cons 1 rfl (Keep.cons 5 rfl (Keep.cons 14 rfl Keep.nil)))) ?_
    refine at_false rfl ?_
    refine at_exit rfl ?_
    refine at_seq ?_
    refine at_region ?_
    refine wl_read rfl rfl rfl (yl_assign rfl rfl) ?_
    refine wl_nil ?_
    refine at_keep (Keep.cons 0 rfl (Keep.cons 1 rfl (Keep.cons 4 rfl (Keep.cons 5 rfl (Keep.cons 14 rfl Keep.nil))))) ?_
    refine at_ret Try.func28 (res1 rfl rfl) ?_
    exact ⟨rfl, rfl⟩
theorem table_fn (b : World) (H : List Asr) : Fn Try.prog 39 [] b H (fun v H' => v = .agg (tb 256).toArray ∧ H = H') := by
  refine fn_of_at (by kernel_rfl) Try.func39 rfl Try.ntmps39 rfl rfl ?_
  refine at_seq ?_
  refine at_region ?_
  refine wl_eff rfl rfl rfl (ef_alloc (cs := tb 0) (z := .agg (tb 0).toArray) rfl (by kernel_rfl) rfl) ?_
  rintro _ _ ⟨g0, rfl, rfl⟩
  refine wl_nil ?_
  refine at_keep (Keep.cons 0 rfl Keep.nil) ?_
  refine at_seq ?_
  refine at_region ?_
  refine wl_eff rfl rfl rfl (ef_alloc (cs := tb 0) (z := .agg (tb 0).toArray) rfl (by kernel_rfl) rfl) ?_
  rintro _ _ ⟨g1, rfl, rfl⟩
  refine wl_nil ?_
  refine at_keep (Keep.cons 0 rfl (Keep.cons 1 rfl Keep.nil)) ?_
  refine at_seq ?_
  refine at_seq ?_
  refine at_region ?_
  refine wl_read rfl rfl rfl (yl_move rfl rfl) ?_
  refine wl_nil ?_
  refine at_keep (Keep.cons 0 rfl (Keep.cons 1 rfl (Keep.cons 4 rfl Keep.nil))) ?_
  refine at_block ?_
  refine at_keep (L' := (fun (i : Nat) => [(0, .pointer (some ⟨g0, 0, none⟩)), (1, .pointer (some ⟨g1, 0, none⟩)), (4, .int .i64 (i : Int))]) 0) (Keep.consEq 0 rfl rfl (Keep.consEq 1 rfl rfl (Keep.consEq 4 rfl rfl Keep.nil))) ?_
  refine at_loop1 (fun (i : Nat) => i ≤ 256) (fun (i : Nat) => [(0, .pointer (some ⟨g0, 0, none⟩)), (1, .pointer (some ⟨g1, 0, none⟩)), (4, .int .i64 (i : Int))]) (fun (i : Nat) => Bk g1 66 (tb i) :: Bk g0 66 (tb 0) :: H) (fun (i : Nat) => 256 - i) 0 (by omega) ?_
  intro i hI ih
  refine at_seq ?_
  refine at_region ?_
  refine wl_split rfl rfl rfl (yp_lss rfl rfl rfl) ?_ ?_
  · intro h3_0
    refine wl_nil ?_
    refine at_keep (Keep.cons 0 rfl (Keep.cons 1 rfl (Keep.cons 4 rfl (Keep.cons 5 rfl Keep.nil)))) ?_
    refine at_seq ?_
    refine at_true rfl ?_
    refine at_skip ?_
    refine at_seq ?_
    refine at_block ?_
    refine at_seq ?_
    have hi : i < 256 := by omega
    refine at_region ?_
    refine wl_read rfl rfl rfl (yl_move rfl rfl) ?_
    refine wl_read rfl rfl rfl (yl_assign rfl rfl) ?_
    refine wl_nil ?_
    refine at_keep (Keep.cons 0 rfl (Keep.cons 1 rfl (Keep.cons 2 rfl (Keep.cons 4 rfl (Keep.cons 5 rfl Keep.nil))))) ?_
    refine at_seq ?_
    refine at_region ?_
    refine wl_read rfl rfl rfl (yl_move rfl rfl) ?_
    refine wl_read rfl rfl rfl (yl_conv rfl rfl rfl Try.underlying59 (wrap32 (by omega))) ?_
    refine wl_read rfl rfl rfl (yl_assign rfl rfl) ?_
    refine wl_nil ?_
    refine at_keep (Keep.cons 0 rfl (Keep.cons 1 rfl (Keep.cons 2 rfl (Keep.cons 3 rfl (Keep.cons 4 rfl (Keep.cons 5 rfl Keep.nil)))))) ?_
    refine at_seq ?_
    refine at_seq ?_
    refine at_region ?_
    refine wl_read rfl rfl rfl (yl_move rfl rfl) ?_
    refine wl_nil ?_
    refine at_keep (Keep.cons 0 rfl (Keep.cons 1 rfl (Keep.cons 2 rfl (Keep.cons 3 rfl (Keep.cons 4 rfl (Keep.cons 5 rfl (Keep.cons 9 rfl Keep.nil))))))) ?_
    refine at_block ?_
    refine at_keep (L' := (fun (k : Nat) => [(0, .pointer (some ⟨g0, 0, none⟩)), (1, .pointer (some ⟨g1, 0, none⟩)), (2, .int .i64 (i : Int)), (3, .int .u32 ((stpn k i : Nat) : Int)), (4, .int .i64 (i : Int)), (9, .int .i64 (k : Int))]) 0) (Keep.consEq 0 rfl rfl (Keep.consEq 1 rfl rfl (Keep.consEq 2 rfl rfl (Keep.consEq 3 rfl rfl (Keep.consEq 4 rfl rfl (Keep.consEq 9 rfl rfl Keep.nil)))))) ?_
    refine at_loop1 (fun (k : Nat) => k ≤ 8) (fun (k : Nat) => [(0, .pointer (some ⟨g0, 0, none⟩)), (1, .pointer (some ⟨g1, 0, none⟩)), (2, .int .i64 (i : Int)), (3, .int .u32 ((stpn k i : Nat) : Int)), (4, .int .i64 (i : Int)), (9, .int .i64 (k : Int))]) (fun (k : Nat) => Bk g1 66 (tb i) :: Bk g0 66 (tb 0) :: H) (fun (k : Nat) => 8 - k) 0 (by omega) ?_
    intro k hI2 ih2
    refine at_seq ?_
    refine at_region ?_
    refine wl_split rfl rfl rfl (yp_lss rfl rfl rfl) ?_ ?_
    · intro h7_0
      refine wl_nil ?_
      refine at_keep (Keep.cons 0 rfl (Keep.cons 1 rfl (Keep.cons 2 rfl (Keep.cons 3 rfl (Keep.cons 4 rfl (Keep.cons 9 rfl (Keep.cons 10 rfl Keep.nil))))))) ?_
      refine at_seq ?_
      refine at_true rfl ?_
      refine at_skip ?_
      refine at_seq ?_
      refine at_block ?_
      refine at_seq ?_
      have hx : stpn k i < 4294967296 := stpn_lt (by omega) k
      refine at_region ?_
      refine wl_read rfl rfl rfl (yl_move rfl rfl) ?_
      refine wl_read rfl rfl rfl (yl_and rfl rfl rfl (low1 hx)) ?_
      refine wl_split rfl rfl rfl (yp_neq rfl rfl rfl) ?_ ?_
      · intro h8_2
        refine wl_nil ?_
        refine at_keep (Keep.cons 0 rfl (Keep.cons 1 rfl (Keep.cons 2 rfl (Keep.cons 3 rfl (Keep.cons 4 rfl (Keep.cons 9 rfl (Keep.cons 10 rfl (Keep.cons 13 rfl Keep.nil)))))))) ?_
        refine at_true rfl ?_
        refine at_region ?_
        refine wl_read rfl rfl rfl (yl_move rfl rfl) ?_
        refine wl_read rfl rfl rfl (yl_shr (r := ((stpn k i / 2 : Nat) : Int)) rfl rfl rfl (by decide) (by decide) (shr_nat _ 1)) ?_
        refine wl_read rfl rfl rfl (yl_xor (r := ((stpn (k + 1) i : Nat) : Int)) rfl rfl rfl (bit_odd hx (by omega))) ?_
        refine wl_read rfl rfl rfl (yl_assign rfl rfl) ?_
        refine wl_nil ?_
        refine at_keep (Keep.cons 0 rfl (Keep.cons 1 rfl (Keep.cons 2 rfl (Keep.cons 3 rfl (Keep.cons 4 rfl (Keep.cons 9 rfl (Keep.cons 10 rfl (Keep.cons 13 rfl Keep.nil)))))))) ?_
        refine at_inBlock ?_
        refine at_region ?_
        refine wl_read rfl rfl rfl (yl_add rfl rfl rfl (w64 (by omega) (by omega))) ?_
        refine wl_read rfl rfl rfl (yl_move rfl rfl) ?_
        refine wl_nil ?_
        refine at_keep (Keep.cons 0 rfl (Keep.cons 1 rfl (Keep.cons 2 rfl (Keep.cons 3 rfl (Keep.cons 4 rfl (Keep.cons 9 rfl (Keep.cons 10 rfl (Keep.cons 13 rfl Keep.nil)))))))) ?_
        exact at_keep (L' := (fun (k : Nat) => [(0, .pointer (some ⟨g0, 0, none⟩)), (1, .pointer (some ⟨g1, 0, none⟩)), (2, .int .i64 (i : Int)), (3, .int .u32 ((stpn k i : Nat) : Int)), (4, .int .i64 (i : Int)), (9, .int .i64 (k : Int))]) (k + 1)) (Keep.consEq 0 rfl rfl (Keep.consEq 1 rfl rfl (Keep.consEq 2 rfl rfl (Keep.consEq 3 rfl rfl (Keep.consEq 4 rfl rfl (Keep.consEq 9 rfl rfl Keep.nil)))))) (ih2 (k + 1) (by omega) (by omega))
      · intro h8_2
        refine wl_nil ?_
        refine at_keep (Keep.cons 0 rfl (Keep.cons 1 rfl (Keep.cons 2 rfl (Keep.cons 3 rfl (Keep.cons 4 rfl (Keep.cons 9 rfl (Keep.cons 10 rfl (Keep.cons 13 rfl Keep.nil)))))))) ?_
        refine at_false rfl ?_
        refine at_region ?_
        refine wl_read rfl rfl rfl (yl_move rfl rfl) ?_
        refine wl_read rfl rfl rfl (yl_shr (r := ((stpn k i / 2 : Nat) : Int)) rfl rfl rfl (by decide) (by decide) (shr_nat _ 1)) ?_
        refine wl_read rfl rfl rfl (yl_assign rfl rfl) ?_
        refine wl_nil ?_
        refine at_keep (Keep.cons 0 rfl (Keep.cons 1 rfl (Keep.cons 2 rfl (Keep.cons 3 rfl (Keep.cons 4 rfl (Keep.cons 9 rfl (Keep.cons 10 rfl (Keep.cons 13 rfl Keep.nil)))))))) ?_
        refine at_inBlock ?_
        refine at_region ?_
        refine wl_read rfl rfl rfl (yl_add rfl rfl rfl (w64 (by omega) (by omega))) ?_
        refine wl_read rfl rfl rfl (yl_move rfl rfl) ?_
        refine wl_nil ?_
        refine at_keep (Keep.cons 0 rfl (Keep.cons 1 rfl (Keep.cons 2 rfl (Keep.cons 3 rfl (Keep.cons 4 rfl (Keep.cons 9 rfl (Keep.cons 10 rfl (Keep.cons 13 rfl Keep.nil)))))))) ?_
        exact at_keep (L' := (fun (k : Nat) => [(0, .pointer (some ⟨g0, 0, none⟩)), (1, .pointer (some ⟨g1, 0, none⟩)), (2, .int .i64 (i : Int)), (3, .int .u32 ((stpn k i : Nat) : Int)), (4, .int .i64 (i : Int)), (9, .int .i64 (k : Int))]) (k + 1)) (Keep.consEq 0 rfl rfl (Keep.consEq 1 rfl rfl (Keep.consEq 2 rfl rfl (Keep.consEq 3 rfl (congrArg (fun z : Nat => Value.int .u32 (z : Int)) (bit_even (by omega))) (Keep.consEq 4 rfl rfl (Keep.consEq 9 rfl rfl Keep.nil)))))) (ih2 (k + 1) (by omega) (by omega))
    · intro h7_0
      refine wl_nil ?_
      refine at_keep (Keep.cons 0 rfl (Keep.cons 1 rfl (Keep.cons 2 rfl (Keep.cons 3 rfl (Keep.cons 4 rfl (Keep.cons 9 rfl (Keep.cons 10 rfl Keep.nil))))))) ?_
      refine at_seq ?_
      refine at_false rfl ?_
      refine at_exit rfl ?_
      obtain rfl : k = 8 := by omega
      refine at_region ?_
      refine wl_read rfl rfl rfl (yl_move rfl rfl) ?_
      refine wl_read rfl rfl rfl (yl_move rfl rfl) ?_
      refine wl_read rfl rfl rfl (yl_indexArr (j := i) rfl rfl rfl rfl hi Try.underlying66 (by kernel_rfl)) ?_
      refine wl_store rfl rfl (es_at0 (es_store 0 rfl rfl rfl rfl (by kernel_rfl) rfl (tb_blt _ hi))) ?_
      rw [tb_set hi]
      refine wl_nil ?_
      refine at_keep (Keep.cons 0 rfl (Keep.cons 1 rfl (Keep.cons 2 rfl (Keep.cons 3 rfl (Keep.cons 4 rfl (Keep.cons 9 rfl (Keep.cons 10 rfl Keep.nil))))))) ?_
      refine at_inBlock ?_
      refine at_region ?_
      refine wl_read rfl rfl rfl (yl_add rfl rfl rfl (w64 (by omega) (by omega))) ?_
      refine wl_read rfl rfl rfl (yl_move rfl rfl) ?_
      refine wl_nil ?_
      refine at_keep (Keep.cons 0 rfl (Keep.cons 1 rfl (Keep.cons 2 rfl (Keep.cons 3 rfl (Keep.cons 4 rfl (Keep.cons 9 rfl (Keep.cons 10 rfl Keep.nil))))))) ?_
      exact at_keep (L' := (fun (i : Nat) => [(0, .pointer (some ⟨g0, 0, none⟩)), (1, .pointer (some ⟨g1, 0, none⟩)), (4, .int .i64 (i : Int))]) (i + 1)) (Keep.consEq 0 rfl rfl (Keep.consEq 1 rfl rfl (Keep.consEq 4 rfl rfl Keep.nil))) (ih (i + 1) (by omega) (by omega))
  · intro h3_0
    refine wl_nil ?_
    refine at_keep (Keep.cons 0 rfl (Keep.cons 1 rfl (Keep.cons 4 rfl (Keep.cons 5 rfl Keep.nil)))) ?_
    refine at_seq ?_
    refine at_false rfl ?_
    refine at_exit rfl ?_
    refine at_seq ?_
    obtain rfl : i = 256 := by omega
    refine at_region ?_
    refine wl_read rfl rfl rfl (yl_loadBk 0 rfl rfl rfl Try.underlying66 rfl (by kernel_rfl)) ?_
    refine wl_store rfl rfl (es_at1 (es_storeN 1 rfl rfl rfl tb_one (by kernel_rfl) rfl (by rw [tb_len, tb_len]))) ?_
    refine wl_nil ?_
    refine at_keep (Keep.cons 0 rfl (Keep.cons 1 rfl (Keep.cons 4 rfl (Keep.cons 5 rfl Keep.nil)))) ?_
    refine at_retH (fun _ hw => hw.tail.tail) Try.func39 (resC 1 rfl rfl rfl Try.underlying66 rfl (by kernel_rfl)) ?_
    exact ⟨rfl, rfl⟩
theorem sum_fn (bs : List UInt8) (A : Option Addr) (c : Nat) (b : World) (H : List Asr) (hR : Rd H A bs) (hbig : bs.length ≤ 1000000) : Fn Try.prog 34 [.slice A bs.length c] b H (fun v H' => v = .int .u32 ((crc bs : Nat) : Int) ∧ H = H') := by
  refine fn_of_at (by kernel_rfl) Try.func34 rfl Try.ntmps34 rfl rfl ?_
  refine at_seq ?_
  refine at_region ?_
  refine wl_read rfl rfl rfl (yl_assign rfl rfl) ?_
  refine wl_nil ?_
  refine at_keep (Keep.cons 0 rfl (Keep.cons 2 rfl Keep.nil)) ?_
  refine at_seq ?_
  refine at_region ?_
  refine wl_call rfl rfl rfl (en_call rfl rfl) (table_fn _ _) ?_
  rintro _ _ ⟨rfl, rfl⟩
  refine wl_eff rfl rfl rfl (ef_alloc (cs := tb 0) (z := .agg (tb 0).toArray) rfl (by kernel_rfl) rfl) ?_
  rintro _ _ ⟨g3, rfl, rfl⟩
  refine wl_store rfl rfl (es_at0 (es_storeN 0 rfl rfl rfl tb_one (by kernel_rfl) rfl (by rw [tb_len, tb_len]))) ?_
  refine wl_nil ?_
  refine at_keep (Keep.cons 0 rfl (Keep.cons 2 rfl (Keep.cons 3 rfl Keep.nil))) ?_
  refine at_seq ?_
  refine at_region ?_
  refine wl_read rfl rfl rfl (yl_assign rfl rfl) ?_
  refine wl_nil ?_
  refine at_keep (Keep.cons 0 rfl (Keep.cons 2 rfl (Keep.cons 3 rfl (Keep.cons 4 rfl Keep.nil)))) ?_
  refine at_seq ?_
  refine at_seq ?_
  refine at_region ?_
  refine wl_read rfl rfl rfl (yl_move rfl rfl) ?_
  refine wl_read rfl rfl rfl (yl_len rfl rfl Try.underlying30) ?_
  refine wl_read rfl rfl rfl (yl_move rfl rfl) ?_
  refine wl_nil ?_
  refine at_keep (Keep.cons 0 rfl (Keep.cons 2 rfl (Keep.cons 3 rfl (Keep.cons 4 rfl (Keep.cons 8 rfl (Keep.cons 9 rfl (Keep.cons 10 rfl Keep.nil))))))) ?_
  refine at_block ?_
  refine at_keep (L' := (fun (j : Nat) => [(3, .pointer (some ⟨g3, 0, none⟩)), (4, .int .u32 ((cst (bs.take j) : Nat) : Int)), (8, .slice A bs.length c), (9, .int .i64 (bs.length : Int)), (10, .int .i64 (j : Int))]) 0) (Keep.consEq 3 rfl rfl (Keep.consEq 4 rfl rfl (Keep.consEq 8 rfl rfl (Keep.consEq 9 rfl rfl (Keep.consEq 10 rfl rfl Keep.nil))))) ?_
  refine at_loop1 (fun (j : Nat) => j ≤ bs.length) (fun (j : Nat) => [(3, .pointer (some ⟨g3, 0, none⟩)), (4, .int .u32 ((cst (bs.take j) : Nat) : Int)), (8, .slice A bs.length c), (9, .int .i64 (bs.length : Int)), (10, .int .i64 (j : Int))]) (fun (j : Nat) => Bk g3 66 (tb 256) :: H) (fun (j : Nat) => bs.length - j) 0 (by omega) ?_
  intro j hI ih
  refine at_seq ?_
  refine at_region ?_
  refine wl_split rfl rfl rfl (yp_lss rfl rfl rfl) ?_ ?_
  · intro h4_0
    refine wl_nil ?_
    refine at_keep (Keep.cons 3 rfl (Keep.cons 4 rfl (Keep.cons 8 rfl (Keep.cons 9 rfl (Keep.cons 10 rfl (Keep.cons 11 rfl Keep.nil)))))) ?_
    refine at_seq ?_
    refine at_true rfl ?_
    refine at_skip ?_
    refine at_seq ?_
    refine at_block ?_
    refine at_seq ?_
    have hj : j < bs.length := by omega
    have hx : cst (bs.take j) < 4294967296 := cst_lt _
    have hcb := (at_ bs j).toNat_lt
    have hm : cst (bs.take j) % 256 ^^^ (at_ bs j).toNat < 256 := xor256 (by omega) hcb
    refine at_region ?_
    refine wl_read rfl rfl rfl (yl_index rfl rfl rfl (hR.cons _) (at_some hj) rfl rfl Try.underlying30 (by kernel_rfl) rfl) ?_
    refine wl_read rfl rfl rfl (yl_load rfl rfl Try.underlying5 rfl ((hR.cons _).cell2 (at_some hj) (i := 0) rfl)) ?_
    refine wl_read rfl rfl rfl (yl_assign rfl rfl) ?_
    refine wl_nil ?_
    refine at_keep (Keep.cons 3 rfl (Keep.cons 4 rfl (Keep.cons 6 rfl (Keep.cons 8 rfl (Keep.cons 9 rfl (Keep.cons 10 rfl (Keep.cons 11 rfl Keep.nil))))))) ?_
    refine at_region ?_
    refine wl_read rfl rfl rfl (yl_move rfl rfl) ?_
    refine wl_read rfl rfl rfl (yl_shr (r := ((cst (bs.take j) / 256 : Nat) : Int)) rfl rfl rfl (by decide) (by decide) (shr_nat _ 8)) ?_
    refine wl_read rfl rfl rfl (yl_move rfl rfl) ?_
    refine wl_read rfl rfl rfl (yl_conv (r := ((cst (bs.take j) % 256 : Nat) : Int)) rfl rfl rfl Try.underlying5 (by rw [IntKind.wrap_u8']; omega)) ?_
    refine wl_read rfl rfl rfl (yl_move rfl rfl) ?_
    refine wl_read rfl rfl rfl (yl_xor rfl rfl rfl (u8_xor_nat _ _ (by omega) hcb)) ?_
    refine wl_read rfl rfl rfl (yl_indexArr (j := cst (bs.take j) % 256 ^^^ (at_ bs j).toNat) rfl rfl rfl rfl hm Try.underlying66 (by kernel_rfl)) ?_
    refine wl_read rfl rfl rfl (yl_load rfl rfl Try.underlying59 rfl (CellAt.bk 0 rfl (tb_get hm))) ?_
    refine wl_read rfl rfl rfl (yl_xor (r := ((cst (bs.take (j + 1)) : Nat) : Int)) rfl rfl rfl (by rw [u32_xor_nat _ _ (by omega) (stpn_lt (by omega) 8), ← crs_table, take_succ_at hj, cst_snoc])) ?_
    refine wl_read rfl rfl rfl (yl_assign rfl rfl) ?_
    refine wl_nil ?_
    refine at_keep (Keep.cons 3 rfl (Keep.cons 4 rfl (Keep.cons 6 rfl (Keep.cons 8 rfl (Keep.cons 9 rfl (Keep.cons 10 rfl (Keep.cons 11 rfl Keep.nil))))))) ?_
    refine at_inBlock ?_
    refine at_region ?_
    refine wl_read rfl rfl rfl (yl_add rfl rfl rfl (w64 (by omega) (by omega))) ?_
    refine wl_read rfl rfl rfl (yl_move rfl rfl) ?_
    refine wl_nil ?_
    refine at_keep (Keep.cons 3 rfl (Keep.cons 4 rfl (Keep.cons 6 rfl (Keep.cons 8 rfl (Keep.cons 9 rfl (Keep.cons 10 rfl (Keep.cons 11 rfl Keep.nil))))))) ?_
    exact at_keep (L' := (fun (j : Nat) => [(3, .pointer (some ⟨g3, 0, none⟩)), (4, .int .u32 ((cst (bs.take j) : Nat) : Int)), (8, .slice A bs.length c), (9, .int .i64 (bs.length : Int)), (10, .int .i64 (j : Int))]) (j + 1)) (Keep.consEq 3 rfl rfl (Keep.consEq 4 rfl rfl (Keep.consEq 8 rfl rfl (Keep.consEq 9 rfl rfl (Keep.consEq 10 rfl rfl Keep.nil))))) (ih (j + 1) (by omega) (by omega))
  · intro h4_0
    refine wl_nil ?_
    refine at_keep (Keep.cons 3 rfl (Keep.cons 4 rfl (Keep.cons 8 rfl (Keep.cons 9 rfl (Keep.cons 10 rfl (Keep.cons 11 rfl Keep.nil)))))) ?_
    refine at_seq ?_
    refine at_false rfl ?_
    refine at_exit rfl ?_
    refine at_seq ?_
    obtain rfl : j = bs.length := by omega
    rw [List.take_length]
    refine at_region ?_
    refine wl_read rfl rfl rfl (yl_move rfl rfl) ?_
    refine wl_read rfl rfl rfl (yl_unXor rfl rfl (u32_xor_nat 4294967295 _ (by decide) (cst_lt _))) ?_
    refine wl_read rfl rfl rfl (yl_assign rfl rfl) ?_
    refine wl_nil ?_
    refine at_keep (Keep.cons 2 rfl (Keep.cons 3 rfl (Keep.cons 4 rfl (Keep.cons 8 rfl (Keep.cons 9 rfl (Keep.cons 10 rfl (Keep.cons 11 rfl Keep.nil))))))) ?_
    refine at_retH (fun _ hw => hw.tail) Try.func34 (res1 rfl rfl) ?_
    exact ⟨rfl, rfl⟩
theorem rsum_fn (bs : List UInt8) (A : Option Addr) (c : Nat) (b : World) (H : List Asr) (hR : Rd H A bs) (hbig : bs.length ≤ 1000000) : Fn Try.prog 37 [.slice A bs.length c] b H (fun v H' => v = .int .u32 ((crc bs : Nat) : Int) ∧ H = H') := by
  refine fn_of_at (by kernel_rfl) Try.func37 rfl Try.ntmps37 rfl rfl ?_
  refine at_seq ?_
  refine at_region ?_
  refine wl_read rfl rfl rfl (yl_assign rfl rfl) ?_
  refine wl_nil ?_
  refine at_keep (Keep.cons 0 rfl (Keep.cons 2 rfl Keep.nil)) ?_
  refine at_seq ?_
  refine at_region ?_
  refine wl_read rfl rfl rfl (yl_assign rfl rfl) ?_
  refine wl_nil ?_
  refine at_keep (Keep.cons 0 rfl (Keep.cons 2 rfl (Keep.cons 3 rfl Keep.nil))) ?_
  refine at_seq ?_
  refine at_seq ?_
  refine at_region ?_
  refine wl_read rfl rfl rfl (yl_assign rfl rfl) ?_
  refine wl_nil ?_
  refine at_keep (Keep.cons 0 rfl (Keep.cons 2 rfl (Keep.cons 3 rfl (Keep.cons 4 rfl Keep.nil)))) ?_
  refine at_block ?_
  refine at_keep (L' := (fun (j : Nat) => [(0, .slice A bs.length c), (3, .int .u32 ((cst (bs.take j) : Nat) : Int)), (4, .int .i64 (j : Int))]) 0) (Keep.consEq 0 rfl rfl (Keep.consEq 3 rfl rfl (Keep.consEq 4 rfl rfl Keep.nil))) ?_
  refine at_loop1 (fun (j : Nat) => j ≤ bs.length) (fun (j : Nat) => [(0, .slice A bs.length c), (3, .int .u32 ((cst (bs.take j) : Nat) : Int)), (4, .int .i64 (j : Int))]) (fun (j : Nat) => H) (fun (j : Nat) => bs.length - j) 0 (by omega) ?_
  intro j hI ih
  refine at_seq ?_
  refine at_seq ?_
  refine at_region ?_
  refine wl_read rfl rfl rfl (yl_move rfl rfl) ?_
  refine wl_read rfl rfl rfl (yl_move rfl rfl) ?_
  refine wl_read rfl rfl rfl (yl_len rfl rfl Try.underlying30) ?_
  refine wl_split rfl rfl rfl (yp_lss rfl rfl rfl) ?_ ?_
  · intro h3_3
    refine wl_nil ?_
    refine at_keep (Keep.cons 0 rfl (Keep.cons 3 rfl (Keep.cons 4 rfl (Keep.cons 10 rfl Keep.nil)))) ?_
    refine at_true rfl ?_
    refine at_skip ?_
    refine at_seq ?_
    refine at_block ?_
    refine at_seq ?_
    have hj : j < bs.length := by omega
    have hx : cst (bs.take j) < 4294967296 := cst_lt _
    have hcb := (at_ bs j).toNat_lt
    refine at_region ?_
    refine wl_read rfl rfl rfl (yl_move rfl rfl) ?_
    refine wl_read rfl rfl rfl (yl_move rfl rfl) ?_
    refine wl_read rfl rfl rfl (yl_move rfl rfl) ?_
    refine wl_read rfl rfl rfl (yl_index rfl rfl rfl hR (at_some hj) rfl rfl Try.underlying30 (by kernel_rfl) rfl) ?_
    refine wl_read rfl rfl rfl (yl_load rfl rfl Try.underlying5 rfl (hR.cell2 (at_some hj) (i := 0) rfl)) ?_
    refine wl_read rfl rfl rfl (yl_conv rfl rfl rfl Try.underlying59 (wrap32 (by omega))) ?_
    refine wl_read rfl rfl rfl (yl_xor rfl rfl rfl (u32_xor_nat _ _ hx (by omega))) ?_
    refine wl_read rfl rfl rfl (yl_assign rfl rfl) ?_
    refine wl_nil ?_
    refine at_keep (Keep.cons 0 rfl (Keep.cons 3 rfl (Keep.cons 4 rfl (Keep.cons 10 rfl Keep.nil)))) ?_
    refine at_seq ?_
    refine at_region ?_
    refine wl_read rfl rfl rfl (yl_assign rfl rfl) ?_
    refine wl_nil ?_
    refine at_keep (Keep.cons 0 rfl (Keep.cons 3 rfl (Keep.cons 4 rfl (Keep.cons 5 rfl (Keep.cons 10 rfl Keep.nil))))) ?_
    refine at_block ?_
    refine at_keep (L' := (fun (k : Nat) => [(0, .slice A bs.length c), (3, .int .u32 ((stpn k (cst (bs.take j) ^^^ (at_ bs j).toNat) : Nat) : Int)), (4, .int .i64 (j : Int)), (5, .int .i64 (k : Int))]) 0) (Keep.consEq 0 rfl rfl (Keep.consEq 3 rfl rfl (Keep.consEq 4 rfl rfl (Keep.consEq 5 rfl rfl Keep.nil)))) ?_
    refine at_loop1 (fun (k : Nat) => k ≤ 8) (fun (k : Nat) => [(0, .slice A bs.length c), (3, .int .u32 ((stpn k (cst (bs.take j) ^^^ (at_ bs j).toNat) : Nat) : Int)), (4, .int .i64 (j : Int)), (5, .int .i64 (k : Int))]) (fun (k : Nat) => H) (fun (k : Nat) => 8 - k) 0 (by omega) ?_
    intro k hI2 ih2
    refine at_seq ?_
    refine at_seq ?_
    refine at_region ?_
    refine wl_read rfl rfl rfl (yl_move rfl rfl) ?_
    refine wl_split rfl rfl rfl (yp_lss rfl rfl rfl) ?_ ?_
    · intro h7_1
      refine wl_nil ?_
      refine at_keep (Keep.cons 0 rfl (Keep.cons 3 rfl (Keep.cons 4 rfl (Keep.cons 5 rfl (Keep.cons 21 rfl Keep.nil))))) ?_
      refine at_true rfl ?_
      refine at_skip ?_
      refine at_seq ?_
      refine at_block ?_
      refine at_seq ?_
      have hy : stpn k (cst (bs.take j) ^^^ (at_ bs j).toNat) < 4294967296 := stpn_lt (xorlt hx (by omega)) k
      refine at_region ?_
      refine wl_read rfl rfl rfl (yl_move rfl rfl) ?_
      refine wl_read rfl rfl rfl (yl_and rfl rfl rfl (low1 hy)) ?_
      refine wl_read rfl rfl rfl (yl_assign rfl rfl) ?_
      refine wl_nil ?_
      refine at_keep (Keep.cons 0 rfl (Keep.cons 3 rfl (Keep.cons 4 rfl (Keep.cons 5 rfl (Keep.cons 6 rfl (Keep.cons 21 rfl Keep.nil)))))) ?_
      refine at_seq ?_
      refine at_region ?_
      refine wl_read rfl rfl rfl (yl_move rfl rfl) ?_
      refine wl_read rfl rfl rfl (yl_shr (r := ((stpn k (cst (bs.take j) ^^^ (at_ bs j).toNat) / 2 : Nat) : Int)) rfl rfl rfl (by decide) (by decide) (shr_nat _ 1)) ?_
      refine wl_read rfl rfl rfl (yl_assign rfl rfl) ?_
      refine wl_nil ?_
      refine at_keep (Keep.cons 0 rfl (Keep.cons 3 rfl (Keep.cons 4 rfl (Keep.cons 5 rfl (Keep.cons 6 rfl (Keep.cons 21 rfl Keep.nil)))))) ?_
      refine at_seq ?_
      refine at_region ?_
      refine wl_read rfl rfl rfl (yl_move rfl rfl) ?_
      refine wl_split rfl rfl rfl (yp_eql rfl rfl rfl) ?_ ?_
      · intro h11_1
        refine wl_nil ?_
        refine at_keep (Keep.cons 0 rfl (Keep.cons 3 rfl (Keep.cons 4 rfl (Keep.cons 5 rfl (Keep.cons 6 rfl (Keep.cons 21 rfl (Keep.cons 29 rfl Keep.nil))))))) ?_
        refine at_true rfl ?_
        refine at_region ?_
        refine wl_read rfl rfl rfl (yl_move rfl rfl) ?_
        refine wl_read rfl rfl rfl (yl_xor (r := ((stpn (k + 1) (cst (bs.take j) ^^^ (at_ bs j).toNat) : Nat) : Int)) rfl rfl rfl (bit_odd hy (by omega))) ?_
        refine wl_read rfl rfl rfl (yl_assign rfl rfl) ?_
        refine wl_nil ?_
        refine at_keep (Keep.cons 0 rfl (Keep.cons 3 rfl (Keep.cons 4 rfl (Keep.cons 5 rfl (Keep.cons 6 rfl (Keep.cons 21 rfl (Keep.cons 29 rfl Keep.nil))))))) ?_
        refine at_inBlock ?_
        refine at_region ?_
        refine wl_read rfl rfl rfl (yl_move rfl rfl) ?_
        refine wl_read rfl rfl rfl (yl_add rfl rfl rfl (w64 (by omega) (by omega))) ?_
        refine wl_read rfl rfl rfl (yl_assign rfl rfl) ?_
        refine wl_nil ?_
        refine at_keep (Keep.cons 0 rfl (Keep.cons 3 rfl (Keep.cons 4 rfl (Keep.cons 5 rfl (Keep.cons 6 rfl (Keep.cons 21 rfl (Keep.cons 29 rfl Keep.nil))))))) ?_
        exact at_keep (L' := (fun (k : Nat) => [(0, .slice A bs.length c), (3, .int .u32 ((stpn k (cst (bs.take j) ^^^ (at_ bs j).toNat) : Nat) : Int)), (4, .int .i64 (j : Int)), (5, .int .i64 (k : Int))]) (k + 1)) (Keep.consEq 0 rfl rfl (Keep.consEq 3 rfl rfl (Keep.consEq 4 rfl rfl (Keep.consEq 5 rfl rfl Keep.nil)))) (ih2 (k + 1) (by omega) (by omega))
      · intro h11_1
        refine wl_nil ?_
        refine at_keep (Keep.cons 0 rfl (Keep.cons 3 rfl (Keep.cons 4 rfl (Keep.cons 5 rfl (Keep.cons 6 rfl (Keep.cons 21 rfl (Keep.cons 29 rfl Keep.nil))))))) ?_
        refine at_false rfl ?_
        refine at_skip ?_
        refine at_inBlock ?_
        refine at_region ?_
        refine wl_read rfl rfl rfl (yl_move rfl rfl) ?_
        refine wl_read rfl rfl rfl (yl_add rfl rfl rfl (w64 (by omega) (by omega))) ?_
        refine wl_read rfl rfl rfl (yl_assign rfl rfl) ?_
        refine wl_nil ?_
        refine at_keep (Keep.cons 0 rfl (Keep.cons 3 rfl (Keep.cons 4 rfl (Keep.cons 5 rfl (Keep.cons 6 rfl (Keep.cons 21 rfl (Keep.cons 29 rfl Keep.nil))))))) ?_
        exact at_keep (L' := (fun (k : Nat) => [(0, .slice A bs.length c), (3, .int .u32 ((stpn k (cst (bs.take j) ^^^ (at_ bs j).toNat) : Nat) : Int)), (4, .int .i64 (j : Int)), (5, .int .i64 (k : Int))]) (k + 1)) (Keep.consEq 0 rfl rfl (Keep.consEq 3 rfl (congrArg (fun z : Nat => Value.int .u32 (z : Int)) (bit_even (by omega))) (Keep.consEq 4 rfl rfl (Keep.consEq 5 rfl rfl Keep.nil)))) (ih2 (k + 1) (by omega) (by omega))
    · intro h7_1
      refine wl_nil ?_
      refine at_keep (Keep.cons 0 rfl (Keep.cons 3 rfl (Keep.cons 4 rfl (Keep.cons 5 rfl (Keep.cons 21 rfl Keep.nil))))) ?_
      refine at_false rfl ?_
      refine at_exit rfl ?_
      refine at_inBlock ?_
      obtain rfl : k = 8 := by omega
      refine at_region ?_
      refine wl_read rfl rfl rfl (yl_move rfl rfl) ?_
      refine wl_read rfl rfl rfl (yl_add rfl rfl rfl (w64 (by omega) (by omega))) ?_
      refine wl_read rfl rfl rfl (yl_assign rfl rfl) ?_
      refine wl_nil ?_
      refine at_keep (Keep.cons 0 rfl (Keep.cons 3 rfl (Keep.cons 4 rfl (Keep.cons 5 rfl (Keep.cons 21 rfl Keep.nil))))) ?_
      exact at_keep (L' := (fun (j : Nat) => [(0, .slice A bs.length c), (3, .int .u32 ((cst (bs.take j) : Nat) : Int)), (4, .int .i64 (j : Int))]) (j + 1)) (Keep.consEq 0 rfl rfl (Keep.consEq 3 rfl (by rw [take_succ_at hj, cst_snoc]; rfl) (Keep.consEq 4 rfl rfl Keep.nil))) (ih (j + 1) (by omega) (by omega))
  · intro h3_3
    refine wl_nil ?_
    refine at_keep (Keep.cons 0 rfl (Keep.cons 3 rfl (Keep.cons 4 rfl (Keep.cons 10 rfl Keep.nil)))) ?_
    refine at_false rfl ?_
    refine at_exit rfl ?_
    refine at_seq ?_
    obtain rfl : j = bs.length := by omega
    rw [List.take_length]
    refine at_region ?_
    refine wl_read rfl rfl rfl (yl_move rfl rfl) ?_
    refine wl_read rfl rfl rfl (yl_unXor rfl rfl (u32_xor_nat 4294967295 _ (by decide) (cst_lt _))) ?_
    refine wl_read rfl rfl rfl (yl_assign rfl rfl) ?_
    refine wl_nil ?_
    refine at_keep (Keep.cons 0 rfl (Keep.cons 2 rfl (Keep.cons 3 rfl (Keep.cons 4 rfl (Keep.cons 10 rfl Keep.nil))))) ?_
    refine at_ret Try.func37 (res1 rfl rfl) ?_
    exact ⟨rfl, rfl⟩
end Go.Proofs.Yteecjaiklpkhaaa

/- Walks of same, fill and awake. -/
import Derived.Test.YteecjaiklpkhaaaE
namespace Go.Proofs.Yteecjaiklpkhaaa
open Go

theorem Pcs.rd : ∀ (ms : List (Mem UInt8)) (D : List Nat) (w : World), (Pcs ms).on D (fun g => w.heap[g]?) → ∀ m, m ∈ ms → m.xs ≠ [] → ∃ ad, m.A = some ad ∧ ∀ j u, (flat m.xs)[j]? = some u → w.cell? (ad.add j) = some u
  | [], _, _, _, m, hm, _ => by simp at hm
  | x :: ms, D, w, ⟨D1, D2, e, hs, hp⟩, m, hm, hx => by
    rcases List.mem_cons.1 hm with rfl | hm
    · rcases hs with ⟨_, _, h3, _⟩ | ⟨g, cur, h1, h2, h3, h4, h5, h6, h7⟩
      · exact absurd h3 hx
      · refine ⟨⟨g, 0, none⟩, h1, fun j u hu => ?_⟩
        have h3' : w.heap[g]? = some (.cells cur 5 (0, 0)) := h3
        rw [add_mk, Nat.zero_add, cell_of_row w g j cur 5 (0, 0) h3']
        rw [← h7, List.getElem?_take] at hu
        split at hu
        · simpa using hu
        · cases hu
    · exact Pcs.rd ms D2 w hp m hm hx
theorem Rd.pcs {H : List Asr} {ms : List (Mem UInt8)} {m : Mem UInt8} (n : Nat) (hn : H[n]? = some (Pcs ms)) (hm : m ∈ ms) : Rd H m.A m.xs := by
  intro b w hw hx
  obtain ⟨DA, hp, _⟩ := hw.update hn
  exact Pcs.rd ms DA w hp m hm hx
theorem JOk.add {s : Sc} {n : Nat} (h : JOk s n) {bs : List UInt8} (hb : okR bs) (A : Option Addr) (c : Nat) : JOk ⟨s.rs ++ [bs], s.fl, s.ws ++ [⟨A, c, bs⟩], ⟨A, c, bs⟩ :: s.pl⟩ (n + 1) := by
  obtain ⟨m, hm, he⟩ := h.fl
  refine ⟨?_, fun r hr => ?_, fun x hx => ?_, ?_, m, ?_, ?_⟩
  · show recs (s.ws ++ [⟨A, c, bs⟩]) = s.rs ++ [bs]
    rw [← h.eq]; simp [recs]
  · rcases List.mem_append.1 hr with hr | hr
    · exact h.ok r hr
    · simp at hr; subst hr; exact hb
  · rcases List.mem_append.1 hx with hx | hx
    · exact List.mem_cons_of_mem _ (h.inp x hx)
    · simp at hx; subst hx; exact List.mem_cons_self
  · show (s.rs ++ [bs]).length ≤ n + 1
    rw [List.length_append, List.length_singleton]; have := h.len; omega
  · show m ≤ (s.rs ++ [bs]).length
    rw [List.length_append]; omega
  · show s.fl = (jenc ((s.rs ++ [bs]).take m)).length
    rw [List.take_append_of_le_length hm]; exact he
theorem JOk.flush {s : Sc} {n : Nat} (h : JOk s n) : JOk ⟨s.rs, (jenc s.rs).length, s.ws, s.pl⟩ n :=
  ⟨h.eq, h.ok, h.inp, h.len, s.rs.length, Nat.le_refl _, by show _ = (jenc (s.rs.take s.rs.length)).length; rw [List.take_length]⟩
theorem JOk.to {s : Sc} {n m : Nat} (h : JOk s n) (hm : n ≤ m) : JOk s m := ⟨h.eq, h.ok, h.inp, by have := h.len; omega, h.fl⟩
theorem JOk.zero : JOk ⟨[], 0, [], []⟩ 0 := ⟨rfl, by simp, by simp, by simp, 0, Nat.le_refl _, rfl⟩
theorem recs_snoc (ws : List (Mem UInt8)) (A : Option Addr) (c : Nat) (bs : List UInt8) : recs (ws ++ [⟨A, c, bs⟩]) = recs ws ++ [bs] := by simp [recs]

theorem same_fn (rs : List (List UInt8)) (ws pl : List (Mem UInt8)) (fl g r : Nat) (b : World) (H : List Asr) (heq : recs ws = rs) (hok : ∀ x, x ∈ rs → okR x) (hlen : rs.length ≤ 20000) (hin : ∀ m, m ∈ ws → m ∈ pl) :
    Fn Try.prog 21 [.pointer (some ⟨g, 0, none⟩), .pointer (some ⟨r, 0, none⟩)] b (Jn g rs fl :: Rj r ws fl :: Pool pl :: H) (fun v H' => v = .bool true ∧ Jn g rs fl :: Rj r ws fl :: Pool pl :: H = H') := by
  have hjl := jenc_le hok
  have hwl : ws.length = rs.length := by rw [← heq]; simp [recs]
  refine fn_of_at (by kernel_rfl) Try.func21 rfl Try.ntmps21 rfl rfl ?_
  refine at_seq ?_
  refine at_region ?_
  refine wl_read rfl rfl rfl (yl_assign rfl rfl) ?_
  refine wl_nil ?_
  refine at_keep (Keep.cons 0 rfl (Keep.cons 1 rfl (Keep.cons 4 rfl Keep.nil))) ?_
  refine at_seq ?_
  refine at_heap (fun _ hw => hw.front1) ?_
  refine at_open (fun _ hw => Rj.opens hw) (fun x => ?_)
  obtain ⟨⟨A5, c5⟩, ⟨A6, c6⟩⟩ := x
  refine at_heap (fun _ hw => hw.front4.front3.front3.front3.front4) ?_
  refine at_draw1 (.fl 0 (.fl 2 (.fl 3 (.fl 4 (.fl 5 (.ef 1 (.ef 6 (.fl 7 (.fl 8 (.fl 10 (.fl 11 (.fl 12 (.fl 13 (.ef 9 (.ef 14 (.fl 15 (.fl 16 (.fl 17 (.fl 19 (.fl 20 (.fl 21 (.fl 22 (.fl 23 (.ef 18 (.fl 24 (.fl 25 (.fl 26 (.fl 27 (.fl 29 (.fl 30 (.fl 31 (.fl 32 (.ef 28 (.fl 33 (.fl 34 (.fl 35 .nil)))))))))))))))))))))))))))))))))))) (by kernel_rfl) (by kernel_rfl) ?_
  refine wt_read rfl rfl rfl rfl (yl_move rfl rfl) ?_
  refine wt_read rfl rfl rfl rfl (yl_move rfl rfl) ?_
  refine wt_read rfl rfl rfl rfl (yl_nilCheck rfl rfl) ?_
  refine wt_read rfl rfl rfl rfl (yl_fieldB rfl rfl Try.underlying50 rfl (by kernel_rfl) rfl) ?_
  refine wt_read rfl rfl rfl rfl (yl_load rfl rfl Try.underlying30 rfl (CellAt.bk 0 rfl rfl)) ?_
  refine wt_call rfl rfl rfl rfl (en_call rfl rfl) (bytesJ_fn rs fl g _ _ (by omega)) ?_
  rintro _ _ ⟨A1, c1, rfl, rfl⟩
  refine ⟨⟨[_, _], rfl⟩, ?_⟩
  refine wt_call rfl rfl rfl rfl (en_call rfl rfl) (bytes_fn (jenc rs) (jenc (recs ws)) _ _ _ _ _ _ (Rd.of_sl 0 rfl) (Rd.of_sl 3 rfl)) ?_
  rintro _ _ ⟨rfl, rfl⟩
  refine ⟨⟨[_, _], rfl⟩, ?_⟩
  rw [decide_eq_true (by rw [heq])]
  refine wt_read rfl rfl rfl rfl (yl_move rfl rfl) ?_
  refine wt_read rfl rfl rfl rfl (yl_move rfl rfl) ?_
  refine wt_read rfl rfl rfl rfl (yl_move rfl rfl) ?_
  refine wt_read rfl rfl rfl rfl (yl_nilCheck rfl rfl) ?_
  refine wt_read rfl rfl rfl rfl (yl_fieldB rfl rfl Try.underlying50 rfl (by kernel_rfl) rfl) ?_
  refine wt_read rfl rfl rfl rfl (yl_load rfl rfl Try.underlying22 rfl (CellAt.bk 0 rfl rfl)) ?_
  refine wt_heap (fun _ hw => hw.front1) ?_
  refine wt_call rfl rfl rfl rfl (en_call rfl rfl) (records_fn rs fl g _ _ (by omega) (by omega)) ?_
  rintro _ _ ⟨A2, c2, out, rfl, hout, rfl⟩
  refine ⟨⟨[_, _, _, _], rfl⟩, ?_⟩
  refine wt_call rfl rfl rfl rfl (en_call rfl rfl) (lists_fn out ws _ _ _ _ _ _ (Rd.of_sl 0 rfl) (Rd.of_sl 6 rfl) (fun m hm => Rd.pcs 1 rfl hm) (fun m hm => Rd.pool (m := m) 7 rfl (hin m hm)) (hout.trans heq.symm) (by have := congrArg List.length hout; simp [recs] at this; omega)) ?_
  rintro _ _ ⟨rfl, rfl⟩
  refine ⟨⟨[_, _, _, _], rfl⟩, ?_⟩
  refine wt_read rfl rfl rfl rfl (yl_pickT rfl rfl rfl) ?_
  refine wt_read rfl rfl rfl rfl (yl_move rfl rfl) ?_
  refine wt_read rfl rfl rfl rfl (yl_move rfl rfl) ?_
  refine wt_read rfl rfl rfl rfl (yl_move rfl rfl) ?_
  refine wt_read rfl rfl rfl rfl (yl_nilCheck rfl rfl) ?_
  refine wt_read rfl rfl rfl rfl (yl_fieldB rfl rfl Try.underlying50 rfl (by kernel_rfl) rfl) ?_
  refine wt_read rfl rfl rfl rfl (yl_load rfl rfl Try.underlying22 rfl (CellAt.bk 0 rfl rfl)) ?_
  refine wt_read rfl rfl rfl rfl (yl_len rfl rfl Try.underlying22) ?_
  refine wt_heap (fun _ hw => hw.front2) ?_
  refine wt_call rfl rfl rfl rfl (en_call rfl rfl) (len_fn rs fl g _ _) ?_
  rintro _ _ ⟨rfl, rfl⟩
  refine ⟨⟨[_, _, _, _], rfl⟩, ?_⟩
  refine wt_read rfl rfl rfl rfl ((yp_eql rfl rfl rfl).1 (by omega)) ?_
  refine wt_read rfl rfl rfl rfl (yl_pickT rfl rfl rfl) ?_
  refine wt_read rfl rfl rfl rfl (yl_move rfl rfl) ?_
  refine wt_read rfl rfl rfl rfl (yl_move rfl rfl) ?_
  refine wt_read rfl rfl rfl rfl (yl_move rfl rfl) ?_
  refine wt_read rfl rfl rfl rfl (yl_nilCheck rfl rfl) ?_
  refine wt_read rfl rfl rfl rfl (yl_fieldB rfl rfl Try.underlying50 rfl (by kernel_rfl) rfl) ?_
  refine wt_read rfl rfl rfl rfl (yl_load rfl rfl Try.underlying3 rfl (CellAt.bk 0 rfl rfl)) ?_
  refine wt_call rfl rfl rfl rfl (en_call rfl rfl) (flushed_fn rs fl g _ _) ?_
  rintro _ _ ⟨rfl, rfl⟩
  refine ⟨⟨[_, _, _, _], rfl⟩, ?_⟩
  refine wt_read rfl rfl rfl rfl ((yp_eql rfl rfl rfl).1 rfl) ?_
  refine wt_read rfl rfl rfl rfl (yl_pickT rfl rfl rfl) ?_
  refine wt_read rfl rfl rfl rfl (yl_assign rfl rfl) ?_
  refine wt_nil ?_
  refine at_keep (Keep.cons 0 rfl (Keep.cons 1 rfl (Keep.cons 4 rfl Keep.nil))) ?_
  refine at_retH (fun _ hw => (Rj.closes (ws := ws) (fl := fl) (hw.front7.front1.front7.front7.front7.drop5.drop5.drop5)).front1) Try.func21 (res1 rfl rfl) ?_
  exact ⟨rfl, rfl⟩
theorem fill_fn (l : List (Mem UInt8)) (A : Option Addr) (c : Nat) (fs : List Bool) (A2 : Option Addr) (c2 : Nat) (b : World) (H : List Asr) (hR : Rd H A l) (hE : ∀ m, m ∈ l → Rd H m.A m.xs) (hR2 : Rd H A2 fs) :
    Fn Try.prog 12 [.slice A l.length c, .slice A2 fs.length c2] b H (fun v H' => ∃ g r s, JOk s 30 ∧ v = .tuple #[.pointer (some ⟨g, 0, none⟩), .pointer (some ⟨r, 0, none⟩), .bool true] ∧ H' = Jn g s.rs s.fl :: Rj r s.ws s.fl :: Pool s.pl :: H) := by
  refine fn_of_at (by kernel_rfl) Try.func12 rfl Try.ntmps12 rfl rfl ?_
  refine at_seq ?_
  refine at_region ?_
  refine wl_read rfl rfl rfl (yl_assign rfl rfl) ?_
  refine wl_read rfl rfl rfl (yl_assign rfl rfl) ?_
  refine wl_read rfl rfl rfl (yl_assign rfl rfl) ?_
  refine wl_nil ?_
  refine at_keep (Keep.cons 0 rfl (Keep.cons 1 rfl (Keep.cons 4 rfl (Keep.cons 5 rfl (Keep.cons 6 rfl Keep.nil))))) ?_
  refine at_seq ?_
  refine at_region ?_
  refine wl_call rfl rfl rfl (en_call rfl rfl) (new_fn _ _) ?_
  rintro _ _ ⟨g, rfl, rfl⟩
  refine wl_read rfl rfl rfl (yl_build (cs := [.slice none 0 0, .slice none 0 0, .int .i64 0]) rfl rfl (fun _ => by kernel_rfl)) ?_
  refine wl_eff rfl rfl rfl (ef_box rfl rfl rfl) ?_
  rintro _ _ ⟨r, rfl, rfl⟩
  refine wl_read rfl rfl rfl (yl_assign rfl rfl) ?_
  refine wl_read rfl rfl rfl (yl_assign rfl rfl) ?_
  refine wl_nil ?_
  refine at_keep (Keep.cons 0 rfl (Keep.cons 1 rfl (Keep.cons 4 rfl (Keep.cons 5 rfl (Keep.cons 6 rfl (Keep.cons 7 rfl (Keep.cons 8 rfl Keep.nil))))))) ?_
  refine at_seq ?_
  refine at_seq ?_
  refine at_region ?_
  refine wl_read rfl rfl rfl (yl_assign rfl rfl) ?_
  refine wl_nil ?_
  refine at_keep (Keep.cons 0 rfl (Keep.cons 1 rfl (Keep.cons 4 rfl (Keep.cons 5 rfl (Keep.cons 6 rfl (Keep.cons 7 rfl (Keep.cons 8 rfl (Keep.cons 9 rfl Keep.nil)))))))) ?_
  refine at_block ?_
  refine at_keep (L' := (fun (j : Nat) (s : Sc) => [(0, .slice A l.length c), (1, .slice A2 fs.length c2), (7, .pointer (some ⟨g, 0, none⟩)), (8, .pointer (some ⟨r, 0, none⟩)), (9, .int .i64 (j : Int))]) 0 ⟨[], 0, [], []⟩) (Keep.consEq 0 rfl rfl (Keep.consEq 1 rfl rfl (Keep.consEq 7 rfl rfl (Keep.consEq 8 rfl rfl (Keep.consEq 9 rfl rfl Keep.nil))))) ?_
  refine at_heap (fun _ hw => (Holds.poolNil (α := UInt8) (Rj.closes (ws := []) (fl := 0) ((hw.nilSl (α := Mem UInt8) 30).nilSl (α := UInt8) 5).front2).front1).down2) ?_
  refine at_loop2 (fun (j : Nat) (s : Sc) => j ≤ 30 ∧ JOk s j) (fun (j : Nat) (s : Sc) => [(0, .slice A l.length c), (1, .slice A2 fs.length c2), (7, .pointer (some ⟨g, 0, none⟩)), (8, .pointer (some ⟨r, 0, none⟩)), (9, .int .i64 (j : Int))]) (fun (j : Nat) (s : Sc) => Jn g s.rs s.fl :: Rj r s.ws s.fl :: Pool s.pl :: H) (fun (j : Nat) (s : Sc) => l.length - j) 0 ⟨[], 0, [], []⟩ ⟨by omega, JOk.zero⟩ ?_
  intro j s hI ih
  obtain ⟨hI1, hs⟩ := hI
  refine at_seq ?_
  refine at_seq ?_
  refine at_region ?_
  refine wl_read rfl rfl rfl (yl_move rfl rfl) ?_
  refine wl_read rfl rfl rfl (yl_move rfl rfl) ?_
  refine wl_read rfl rfl rfl (yl_len rfl rfl Try.underlying22) ?_
  refine wl_split rfl rfl rfl (yp_lss rfl rfl rfl) ?_ ?_
  · intro h3_3
    refine wl_read rfl rfl rfl (yl_move rfl rfl) ?_
    refine wl_read rfl rfl rfl (yl_move rfl rfl) ?_
    refine wl_split rfl rfl rfl (yp_lss rfl rfl rfl) ?_ ?_
    · intro h3_6
      refine wl_read rfl rfl rfl (yl_pickT rfl rfl rfl) ?_
      refine wl_nil ?_
      refine at_keep (Keep.cons 0 rfl (Keep.cons 1 rfl (Keep.cons 7 rfl (Keep.cons 8 rfl (Keep.cons 9 rfl (Keep.cons 20 rfl Keep.nil)))))) ?_
      refine at_true rfl ?_
      refine at_skip ?_
      refine at_seq ?_
      refine at_block ?_
      refine at_seq ?_
      refine at_seq ?_
      refine at_heap (fun _ hw => hw.front2.front2.front2) ?_
      have hj : j < l.length := by omega
      have hlen := hs.len
      have hlw := hs.lenw
      have hby := hs.bytes
      have heq := hs.eq
      have hbr : (jenc (recs s.ws)).length ≤ 406 * j := by rw [heq]; exact hby
      refine at_draw2 (.fl 0 (.fl 1 (.fl 2 (.fl 3 (.fl 4 (.fl 6 (.fl 7 (.fl 8 (.fl 9 (.fl 10 (.ef 5 (.ef 11 (.fl 12 .nil))))))))))))) (by kernel_rfl) (by kernel_rfl) ?_
      refine wt_read rfl rfl rfl rfl (yl_move rfl rfl) ?_
      refine wt_read rfl rfl rfl rfl (yl_move rfl rfl) ?_
      refine wt_read rfl rfl rfl rfl (yl_move rfl rfl) ?_
      refine wt_read rfl rfl rfl rfl (yl_index rfl rfl rfl (hR.cons _) (at_some hj) rfl rfl Try.underlying22 (by kernel_rfl) rfl) ?_
      refine wt_read rfl rfl rfl rfl (yl_load rfl rfl Try.underlying30 rfl ((hR.cons _).cell2 (at_some hj) (i := 0) rfl)) ?_
      refine wt_read rfl rfl rfl rfl (yl_move rfl rfl) ?_
      refine wt_read rfl rfl rfl rfl (yl_move rfl rfl) ?_
      refine wt_read rfl rfl rfl rfl (yl_move rfl rfl) ?_
      refine wt_read rfl rfl rfl rfl (yl_index rfl rfl rfl (hR.cons _) (at_some hj) rfl rfl Try.underlying22 (by kernel_rfl) rfl) ?_
      refine wt_read rfl rfl rfl rfl (yl_load rfl rfl Try.underlying30 rfl ((hR.cons _).cell2 (at_some hj) (i := 0) rfl)) ?_
      refine wt_call rfl rfl rfl rfl (en_call rfl rfl) (append_any s.rs s.fl g _ _ (at_ l j).xs _ _ (by omega) (by omega) (((hE _ (at_in hj)).cons _).cons _)) ?_
      rintro _ _ (⟨hok, rfl, rfl⟩ | ⟨hok, rfl, rfl⟩)
      ·
        refine ⟨⟨[_, _], rfl⟩, ?_⟩
        refine wt_heap (fun _ hw => hw.front1) ?_
        refine wt_call rfl rfl rfl rfl (en_call rfl rfl) (rappend_fn s.ws s.fl r _ _ (at_ l j).xs _ _ hok (by omega) (by omega) (((hE _ (at_in hj)).cons _).cons _)) ?_
        rintro _ _ ⟨A9, c9, rfl, rfl⟩
        refine ⟨⟨[_, _, _], rfl⟩, ?_⟩
        refine wt_read rfl rfl rfl rfl ((yp_neq rfl rfl rfl).2 (by simp)) ?_
        refine wt_nil ?_
        refine at_keep (Keep.cons 0 rfl (Keep.cons 1 rfl (Keep.cons 7 rfl (Keep.cons 8 rfl (Keep.cons 9 rfl (Keep.cons 20 rfl (Keep.cons 35 rfl Keep.nil))))))) ?_
        refine at_false rfl ?_
        refine at_skip ?_
        refine at_seq ?_
        refine at_heap (fun _ hw => hw.front3.front1) ?_
        refine at_heap (fun _ hw => Holds.poolIn hw) ?_
        have hs1 : JOk ⟨s.rs ++ [(at_ l j).xs], s.fl, s.ws ++ [(⟨A9, c9, (at_ l j).xs⟩ : Mem UInt8)], (⟨A9, c9, (at_ l j).xs⟩ : Mem UInt8) :: s.pl⟩ (j + 1) := hs.add hok A9 c9
        refine at_heap (fun _ hw => hw.front1.front2) ?_
        refine at_region ?_
        refine wl_read rfl rfl rfl (yl_move rfl rfl) ?_
        refine wl_read rfl rfl rfl (yl_move rfl rfl) ?_
        refine wl_read rfl rfl rfl (yl_len rfl rfl Try.underlying40) ?_
        refine wl_split rfl rfl rfl (yp_lss rfl rfl rfl) ?_ ?_
        · intro h7_3
          refine wl_read rfl rfl rfl (yl_move rfl rfl) ?_
          refine wl_read rfl rfl rfl (yl_move rfl rfl) ?_
          refine wl_read rfl rfl rfl (yl_move rfl rfl) ?_
          have hjf : j < fs.length := by omega
          refine wl_read rfl rfl rfl (yl_index rfl rfl rfl (((hR2.cons _).cons _).cons _) (at_some hjf) rfl rfl Try.underlying40 (by kernel_rfl) rfl) ?_
          refine wl_splitB rfl rfl rfl (yl_load rfl rfl Try.underlying4 rfl ((((hR2.cons _).cons _).cons _).cell2 (at_some hjf) (i := 0) rfl)) ?_ ?_
          · intro h7_8
            refine wl_read rfl rfl rfl (yl_pickT rfl rfl rfl) ?_
            refine wl_nil ?_
            refine at_keep (Keep.cons 0 rfl (Keep.cons 1 rfl (Keep.cons 7 rfl (Keep.cons 8 rfl (Keep.cons 9 rfl (Keep.cons 20 rfl (Keep.cons 35 rfl (Keep.cons 47 rfl Keep.nil)))))))) ?_
            refine at_true rfl ?_
            refine at_seq ?_
            refine at_region ?_
            refine wl_read rfl rfl rfl (yl_move rfl rfl) ?_
            refine wl_call rfl rfl rfl (en_call rfl rfl) (flush_fn (s.rs ++ [(at_ l j).xs]) s.fl g _ _) ?_
            rintro _ _ ⟨rfl, rfl⟩
            refine wl_nil ?_
            refine at_keep (Keep.cons 0 rfl (Keep.cons 1 rfl (Keep.cons 7 rfl (Keep.cons 8 rfl (Keep.cons 9 rfl (Keep.cons 20 rfl (Keep.cons 35 rfl (Keep.cons 47 rfl Keep.nil)))))))) ?_
            refine at_region ?_
            refine wl_read rfl rfl rfl (yl_move rfl rfl) ?_
            refine wl_heap (fun _ hw => hw.front1) ?_
            refine wl_call rfl rfl rfl (en_call rfl rfl) (rsync_fn (s.ws ++ [(⟨A9, c9, (at_ l j).xs⟩ : Mem UInt8)]) s.fl r _ _) ?_
            rintro _ _ ⟨rfl, rfl⟩
            rw [hs1.eq]
            refine wl_nil ?_
            refine at_keep (Keep.cons 0 rfl (Keep.cons 1 rfl (Keep.cons 7 rfl (Keep.cons 8 rfl (Keep.cons 9 rfl (Keep.cons 20 rfl (Keep.cons 35 rfl (Keep.cons 47 rfl Keep.nil)))))))) ?_
            refine at_inBlock ?_
            refine at_heap (fun _ hw => hw.front2.front1.front2) ?_
            refine at_region ?_
            refine wl_read rfl rfl rfl (yl_move rfl rfl) ?_
            refine wl_read rfl rfl rfl (yl_add rfl rfl rfl (w64 (by omega) (by omega))) ?_
            refine wl_read rfl rfl rfl (yl_assign rfl rfl) ?_
            refine wl_nil ?_
            refine at_keep (Keep.cons 0 rfl (Keep.cons 1 rfl (Keep.cons 7 rfl (Keep.cons 8 rfl (Keep.cons 9 rfl (Keep.cons 20 rfl (Keep.cons 35 rfl (Keep.cons 47 rfl Keep.nil)))))))) ?_
            exact at_keep (L' := (fun (j : Nat) (s : Sc) => [(0, .slice A l.length c), (1, .slice A2 fs.length c2), (7, .pointer (some ⟨g, 0, none⟩)), (8, .pointer (some ⟨r, 0, none⟩)), (9, .int .i64 (j : Int))]) (j + 1) ⟨s.rs ++ [(at_ l j).xs], (jenc (s.rs ++ [(at_ l j).xs])).length, s.ws ++ [(⟨A9, c9, (at_ l j).xs⟩ : Mem UInt8)], (⟨A9, c9, (at_ l j).xs⟩ : Mem UInt8) :: s.pl⟩) (Keep.consEq 0 rfl rfl (Keep.consEq 1 rfl rfl (Keep.consEq 7 rfl rfl (Keep.consEq 8 rfl rfl (Keep.consEq 9 rfl rfl Keep.nil))))) (ih (j + 1) ⟨s.rs ++ [(at_ l j).xs], (jenc (s.rs ++ [(at_ l j).xs])).length, s.ws ++ [(⟨A9, c9, (at_ l j).xs⟩ : Mem UInt8)], (⟨A9, c9, (at_ l j).xs⟩ : Mem UInt8) :: s.pl⟩ ⟨by omega, hs1.flush⟩ (by omega))
          · intro h7_8
            refine wl_read rfl rfl rfl (yl_pickT rfl rfl rfl) ?_
            refine wl_nil ?_
            refine at_keep (Keep.cons 0 rfl (Keep.cons 1 rfl (Keep.cons 7 rfl (Keep.cons 8 rfl (Keep.cons 9 rfl (Keep.cons 20 rfl (Keep.cons 35 rfl (Keep.cons 47 rfl Keep.nil)))))))) ?_
            refine at_false rfl ?_
            refine at_skip ?_
            refine at_inBlock ?_
            refine at_heap (fun _ hw => hw.front2.front2.front2) ?_
            refine at_region ?_
            refine wl_read rfl rfl rfl (yl_move rfl rfl) ?_
            refine wl_read rfl rfl rfl (yl_add rfl rfl rfl (w64 (by omega) (by omega))) ?_
            refine wl_read rfl rfl rfl (yl_assign rfl rfl) ?_
            refine wl_nil ?_
            refine at_keep (Keep.cons 0 rfl (Keep.cons 1 rfl (Keep.cons 7 rfl (Keep.cons 8 rfl (Keep.cons 9 rfl (Keep.cons 20 rfl (Keep.cons 35 rfl (Keep.cons 47 rfl Keep.nil)))))))) ?_
            exact at_keep (L' := (fun (j : Nat) (s : Sc) => [(0, .slice A l.length c), (1, .slice A2 fs.length c2), (7, .pointer (some ⟨g, 0, none⟩)), (8, .pointer (some ⟨r, 0, none⟩)), (9, .int .i64 (j : Int))]) (j + 1) ⟨s.rs ++ [(at_ l j).xs], s.fl, s.ws ++ [(⟨A9, c9, (at_ l j).xs⟩ : Mem UInt8)], (⟨A9, c9, (at_ l j).xs⟩ : Mem UInt8) :: s.pl⟩) (Keep.consEq 0 rfl rfl (Keep.consEq 1 rfl rfl (Keep.consEq 7 rfl rfl (Keep.consEq 8 rfl rfl (Keep.consEq 9 rfl rfl Keep.nil))))) (ih (j + 1) ⟨s.rs ++ [(at_ l j).xs], s.fl, s.ws ++ [(⟨A9, c9, (at_ l j).xs⟩ : Mem UInt8)], (⟨A9, c9, (at_ l j).xs⟩ : Mem UInt8) :: s.pl⟩ ⟨by omega, hs1⟩ (by omega))
        · intro h7_3
          refine wl_read rfl rfl rfl (yl_move rfl rfl) ?_
          refine wl_skip rfl rfl rfl ?_
          refine wl_skip rfl rfl rfl ?_
          refine wl_skip rfl rfl rfl ?_
          refine wl_skip rfl rfl rfl ?_
          refine wl_read rfl rfl rfl (yl_pickF rfl rfl rfl) ?_
          refine wl_nil ?_
          refine at_keep (Keep.cons 0 rfl (Keep.cons 1 rfl (Keep.cons 7 rfl (Keep.cons 8 rfl (Keep.cons 9 rfl (Keep.cons 20 rfl (Keep.cons 35 rfl (Keep.cons 47 rfl Keep.nil)))))))) ?_
          refine at_false rfl ?_
          refine at_skip ?_
          refine at_inBlock ?_
          refine at_heap (fun _ hw => hw.front2.front2.front2) ?_
          refine at_region ?_
          refine wl_read rfl rfl rfl (yl_move rfl rfl) ?_
          refine wl_read rfl rfl rfl (yl_add rfl rfl rfl (w64 (by omega) (by omega))) ?_
          refine wl_read rfl rfl rfl (yl_assign rfl rfl) ?_
          refine wl_nil ?_
          refine at_keep (Keep.cons 0 rfl (Keep.cons 1 rfl (Keep.cons 7 rfl (Keep.cons 8 rfl (Keep.cons 9 rfl (Keep.cons 20 rfl (Keep.cons 35 rfl (Keep.cons 47 rfl Keep.nil)))))))) ?_
          exact at_keep (L' := (fun (j : Nat) (s : Sc) => [(0, .slice A l.length c), (1, .slice A2 fs.length c2), (7, .pointer (some ⟨g, 0, none⟩)), (8, .pointer (some ⟨r, 0, none⟩)), (9, .int .i64 (j : Int))]) (j + 1) ⟨s.rs ++ [(at_ l j).xs], s.fl, s.ws ++ [(⟨A9, c9, (at_ l j).xs⟩ : Mem UInt8)], (⟨A9, c9, (at_ l j).xs⟩ : Mem UInt8) :: s.pl⟩) (Keep.consEq 0 rfl rfl (Keep.consEq 1 rfl rfl (Keep.consEq 7 rfl rfl (Keep.consEq 8 rfl rfl (Keep.consEq 9 rfl rfl Keep.nil))))) (ih (j + 1) ⟨s.rs ++ [(at_ l j).xs], s.fl, s.ws ++ [(⟨A9, c9, (at_ l j).xs⟩ : Mem UInt8)], (⟨A9, c9, (at_ l j).xs⟩ : Mem UInt8) :: s.pl⟩ ⟨by omega, hs1⟩ (by omega))
      ·
        refine ⟨⟨[_, _], rfl⟩, ?_⟩
        refine wt_heap (fun _ hw => hw.front1) ?_
        refine wt_call rfl rfl rfl rfl (en_call rfl rfl) (rappend_bad s.ws s.fl r _ _ (at_ l j).xs _ _ hok) ?_
        rintro _ _ ⟨rfl, rfl⟩
        refine ⟨⟨[_, _], rfl⟩, ?_⟩
        refine wt_read rfl rfl rfl rfl ((yp_neq rfl rfl rfl).2 (by simp)) ?_
        refine wt_nil ?_
        refine at_keep (Keep.cons 0 rfl (Keep.cons 1 rfl (Keep.cons 7 rfl (Keep.cons 8 rfl (Keep.cons 9 rfl (Keep.cons 20 rfl (Keep.cons 35 rfl Keep.nil))))))) ?_
        refine at_false rfl ?_
        refine at_skip ?_
        refine at_seq ?_
        have hs1 : JOk s (j + 1) := hs.to (by omega)
        refine at_heap (fun _ hw => hw.front2.front1.front2) ?_
        refine at_region ?_
        refine wl_read rfl rfl rfl (yl_move rfl rfl) ?_
        refine wl_read rfl rfl rfl (yl_move rfl rfl) ?_
        refine wl_read rfl rfl rfl (yl_len rfl rfl Try.underlying40) ?_
        refine wl_split rfl rfl rfl (yp_lss rfl rfl rfl) ?_ ?_
        · intro h7_3
          refine wl_read rfl rfl rfl (yl_move rfl rfl) ?_
          refine wl_read rfl rfl rfl (yl_move rfl rfl) ?_
          refine wl_read rfl rfl rfl (yl_move rfl rfl) ?_
          have hjf : j < fs.length := by omega
          refine wl_read rfl rfl rfl (yl_index rfl rfl rfl (((hR2.cons _).cons _).cons _) (at_some hjf) rfl rfl Try.underlying40 (by kernel_rfl) rfl) ?_
          refine wl_splitB rfl rfl rfl (yl_load rfl rfl Try.underlying4 rfl ((((hR2.cons _).cons _).cons _).cell2 (at_some hjf) (i := 0) rfl)) ?_ ?_
          · intro h7_8
            refine wl_read rfl rfl rfl (yl_pickT rfl rfl rfl) ?_
            refine wl_nil ?_
            refine at_keep (Keep.cons 0 rfl (Keep.cons 1 rfl (Keep.cons 7 rfl (Keep.cons 8 rfl (Keep.cons 9 rfl (Keep.cons 20 rfl (Keep.cons 35 rfl (Keep.cons 47 rfl Keep.nil)))))))) ?_
            refine at_true rfl ?_
            refine at_seq ?_
            refine at_region ?_
            refine wl_read rfl rfl rfl (yl_move rfl rfl) ?_
            refine wl_call rfl rfl rfl (en_call rfl rfl) (flush_fn (s.rs) s.fl g _ _) ?_
            rintro _ _ ⟨rfl, rfl⟩
            refine wl_nil ?_
            refine at_keep (Keep.cons 0 rfl (Keep.cons 1 rfl (Keep.cons 7 rfl (Keep.cons 8 rfl (Keep.cons 9 rfl (Keep.cons 20 rfl (Keep.cons 35 rfl (Keep.cons 47 rfl Keep.nil)))))))) ?_
            refine at_region ?_
            refine wl_read rfl rfl rfl (yl_move rfl rfl) ?_
            refine wl_heap (fun _ hw => hw.front1) ?_
            refine wl_call rfl rfl rfl (en_call rfl rfl) (rsync_fn (s.ws) s.fl r _ _) ?_
            rintro _ _ ⟨rfl, rfl⟩
            rw [hs1.eq]
            refine wl_nil ?_
            refine at_keep (Keep.cons 0 rfl (Keep.cons 1 rfl (Keep.cons 7 rfl (Keep.cons 8 rfl (Keep.cons 9 rfl (Keep.cons 20 rfl (Keep.cons 35 rfl (Keep.cons 47 rfl Keep.nil)))))))) ?_
            refine at_inBlock ?_
            refine at_heap (fun _ hw => hw.front2.front1.front2) ?_
            refine at_region ?_
            refine wl_read rfl rfl rfl (yl_move rfl rfl) ?_
            refine wl_read rfl rfl rfl (yl_add rfl rfl rfl (w64 (by omega) (by omega))) ?_
            refine wl_read rfl rfl rfl (yl_assign rfl rfl) ?_
            refine wl_nil ?_
            refine at_keep (Keep.cons 0 rfl (Keep.cons 1 rfl (Keep.cons 7 rfl (Keep.cons 8 rfl (Keep.cons 9 rfl (Keep.cons 20 rfl (Keep.cons 35 rfl (Keep.cons 47 rfl Keep.nil)))))))) ?_
            exact at_keep (L' := (fun (j : Nat) (s : Sc) => [(0, .slice A l.length c), (1, .slice A2 fs.length c2), (7, .pointer (some ⟨g, 0, none⟩)), (8, .pointer (some ⟨r, 0, none⟩)), (9, .int .i64 (j : Int))]) (j + 1) ⟨s.rs, (jenc (s.rs)).length, s.ws, s.pl⟩) (Keep.consEq 0 rfl rfl (Keep.consEq 1 rfl rfl (Keep.consEq 7 rfl rfl (Keep.consEq 8 rfl rfl (Keep.consEq 9 rfl rfl Keep.nil))))) (ih (j + 1) ⟨s.rs, (jenc (s.rs)).length, s.ws, s.pl⟩ ⟨by omega, hs1.flush⟩ (by omega))
          · intro h7_8
            refine wl_read rfl rfl rfl (yl_pickT rfl rfl rfl) ?_
            refine wl_nil ?_
            refine at_keep (Keep.cons 0 rfl (Keep.cons 1 rfl (Keep.cons 7 rfl (Keep.cons 8 rfl (Keep.cons 9 rfl (Keep.cons 20 rfl (Keep.cons 35 rfl (Keep.cons 47 rfl Keep.nil)))))))) ?_
            refine at_false rfl ?_
            refine at_skip ?_
            refine at_inBlock ?_
            refine at_heap (fun _ hw => hw.front2.front2.front2) ?_
            refine at_region ?_
            refine wl_read rfl rfl rfl (yl_move rfl rfl) ?_
            refine wl_read rfl rfl rfl (yl_add rfl rfl rfl (w64 (by omega) (by omega))) ?_
            refine wl_read rfl rfl rfl (yl_assign rfl rfl) ?_
            refine wl_nil ?_
            refine at_keep (Keep.cons 0 rfl (Keep.cons 1 rfl (Keep.cons 7 rfl (Keep.cons 8 rfl (Keep.cons 9 rfl (Keep.cons 20 rfl (Keep.cons 35 rfl (Keep.cons 47 rfl Keep.nil)))))))) ?_
            exact at_keep (L' := (fun (j : Nat) (s : Sc) => [(0, .slice A l.length c), (1, .slice A2 fs.length c2), (7, .pointer (some ⟨g, 0, none⟩)), (8, .pointer (some ⟨r, 0, none⟩)), (9, .int .i64 (j : Int))]) (j + 1) ⟨s.rs, s.fl, s.ws, s.pl⟩) (Keep.consEq 0 rfl rfl (Keep.consEq 1 rfl rfl (Keep.consEq 7 rfl rfl (Keep.consEq 8 rfl rfl (Keep.consEq 9 rfl rfl Keep.nil))))) (ih (j + 1) ⟨s.rs, s.fl, s.ws, s.pl⟩ ⟨by omega, hs1⟩ (by omega))
        · intro h7_3
          refine wl_read rfl rfl rfl (yl_move rfl rfl) ?_
          refine wl_skip rfl rfl rfl ?_
          refine wl_skip rfl rfl rfl ?_
          refine wl_skip rfl rfl rfl ?_
          refine wl_skip rfl rfl rfl ?_
          refine wl_read rfl rfl rfl (yl_pickF rfl rfl rfl) ?_
          refine wl_nil ?_
          refine at_keep (Keep.cons 0 rfl (Keep.cons 1 rfl (Keep.cons 7 rfl (Keep.cons 8 rfl (Keep.cons 9 rfl (Keep.cons 20 rfl (Keep.cons 35 rfl (Keep.cons 47 rfl Keep.nil)))))))) ?_
          refine at_false rfl ?_
          refine at_skip ?_
          refine at_inBlock ?_
          refine at_heap (fun _ hw => hw.front2.front2.front2) ?_
          refine at_region ?_
          refine wl_read rfl rfl rfl (yl_move rfl rfl) ?_
          refine wl_read rfl rfl rfl (yl_add rfl rfl rfl (w64 (by omega) (by omega))) ?_
          refine wl_read rfl rfl rfl (yl_assign rfl rfl) ?_
          refine wl_nil ?_
          refine at_keep (Keep.cons 0 rfl (Keep.cons 1 rfl (Keep.cons 7 rfl (Keep.cons 8 rfl (Keep.cons 9 rfl (Keep.cons 20 rfl (Keep.cons 35 rfl (Keep.cons 47 rfl Keep.nil)))))))) ?_
          exact at_keep (L' := (fun (j : Nat) (s : Sc) => [(0, .slice A l.length c), (1, .slice A2 fs.length c2), (7, .pointer (some ⟨g, 0, none⟩)), (8, .pointer (some ⟨r, 0, none⟩)), (9, .int .i64 (j : Int))]) (j + 1) ⟨s.rs, s.fl, s.ws, s.pl⟩) (Keep.consEq 0 rfl rfl (Keep.consEq 1 rfl rfl (Keep.consEq 7 rfl rfl (Keep.consEq 8 rfl rfl (Keep.consEq 9 rfl rfl Keep.nil))))) (ih (j + 1) ⟨s.rs, s.fl, s.ws, s.pl⟩ ⟨by omega, hs1⟩ (by omega))
    · intro h3_6
      refine wl_read rfl rfl rfl (yl_pickT rfl rfl rfl) ?_
      refine wl_nil ?_
      refine at_keep (Keep.cons 0 rfl (Keep.cons 1 rfl (Keep.cons 7 rfl (Keep.cons 8 rfl (Keep.cons 9 rfl (Keep.cons 20 rfl Keep.nil)))))) ?_
      refine at_false rfl ?_
      refine at_exit rfl ?_
      refine at_seq ?_
      refine at_region ?_
      refine wl_read rfl rfl rfl (yl_move rfl rfl) ?_
      refine wl_read rfl rfl rfl (yl_move rfl rfl) ?_
      refine wl_read rfl rfl rfl (yl_assign rfl rfl) ?_
      refine wl_read rfl rfl rfl (yl_assign rfl rfl) ?_
      refine wl_read rfl rfl rfl (yl_assign rfl rfl) ?_
      refine wl_nil ?_
      refine at_keep (Keep.cons 0 rfl (Keep.cons 1 rfl (Keep.cons 4 rfl (Keep.cons 5 rfl (Keep.cons 6 rfl (Keep.cons 7 rfl (Keep.cons 8 rfl (Keep.cons 9 rfl (Keep.cons 20 rfl Keep.nil))))))))) ?_
      refine at_ret Try.func12 (res3 rfl rfl rfl rfl) ?_
      exact ⟨g, r, s, hs.to (by omega), rfl, rfl⟩
  · intro h3_3
    refine wl_read rfl rfl rfl (yl_move rfl rfl) ?_
    refine wl_skip rfl rfl rfl ?_
    refine wl_skip rfl rfl rfl ?_
    refine wl_read rfl rfl rfl (yl_pickF rfl rfl rfl) ?_
    refine wl_nil ?_
    refine at_keep (Keep.cons 0 rfl (Keep.cons 1 rfl (Keep.cons 7 rfl (Keep.cons 8 rfl (Keep.cons 9 rfl (Keep.cons 20 rfl Keep.nil)))))) ?_
    refine at_false rfl ?_
    refine at_exit rfl ?_
    refine at_seq ?_
    refine at_region ?_
    refine wl_read rfl rfl rfl (yl_move rfl rfl) ?_
    refine wl_read rfl rfl rfl (yl_move rfl rfl) ?_
    refine wl_read rfl rfl rfl (yl_assign rfl rfl) ?_
    refine wl_read rfl rfl rfl (yl_assign rfl rfl) ?_
    refine wl_read rfl rfl rfl (yl_assign rfl rfl) ?_
    refine wl_nil ?_
    refine at_keep (Keep.cons 0 rfl (Keep.cons 1 rfl (Keep.cons 4 rfl (Keep.cons 5 rfl (Keep.cons 6 rfl (Keep.cons 7 rfl (Keep.cons 8 rfl (Keep.cons 9 rfl (Keep.cons 20 rfl Keep.nil))))))))) ?_
    refine at_ret Try.func12 (res3 rfl rfl rfl rfl) ?_
    exact ⟨g, r, s, hs.to (by omega), rfl, rfl⟩
end Go.Proofs.Yteecjaiklpkhaaa

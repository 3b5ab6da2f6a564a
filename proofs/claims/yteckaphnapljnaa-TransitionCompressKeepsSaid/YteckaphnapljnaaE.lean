/- Contracts in the form that the laws use; the sanity check awake. -/
import Derived.Test.YteckaphnapljnaaC
import Derived.Test.YteckaphnapljnaaD
namespace Go.Proofs.Yteckaphnapljnaa
open Go

section
variable {s : List Stage} {A : Option Addr} {c : Nat} {b : World} {H : List Asr}
theorem run_ok (hv : Valid s) (hR : Rd H A s) : Fn Try.prog 15 [.slice A s.length c] b H (fun v H' => ∃ A' c', v = .tuple #[.slice A' (run s).length c', .int .i64 0] ∧ H' = Sl A' c' 32 (run s) :: H) :=
  (run_fn s A c b H hR (by have := hv.1; omega)).mono (by
    rintro v H' (⟨_, h⟩ | ⟨hn, _⟩)
    · exact h
    · exact absurd hv hn)
theorem refrun_ok (hv : Valid s) (hR : Rd H A s) : Fn Try.prog 16 [.slice A s.length c] b H (fun v H' => ∃ A' c', v = .tuple #[.slice A' (run s).length c', .int .i64 0] ∧ H' = Sl A' c' 32 (run s) :: H) :=
  (refrun_fn s A c b H hR (by have := hv.1; omega)).mono (by
    rintro v H' (⟨_, h⟩ | ⟨hn, _⟩)
    · exact h
    · exact absurd hv hn)
theorem run_bad (hn : ¬ Valid s) (hR : Rd H A s) (hl : s.length ≤ 140737488355328) : Fn Try.prog 15 [.slice A s.length c] b H (fun v H' => v = .tuple #[.slice none 0 0, .int .i64 1] ∧ H = H') :=
  (run_fn s A c b H hR hl).mono (by
    rintro v H' (⟨hv, _⟩ | ⟨_, h⟩)
    · exact absurd hv hn
    · exact h)
theorem refrun_bad (hn : ¬ Valid s) (hR : Rd H A s) (hl : s.length ≤ 140737488355328) : Fn Try.prog 16 [.slice A s.length c] b H (fun v H' => v = .tuple #[.slice none 0 0, .int .i64 1] ∧ H = H') :=
  (refrun_fn s A c b H hR hl).mono (by
    rintro v H' (⟨hv, _⟩ | ⟨_, h⟩)
    · exact absurd hv hn
    · exact h)
end

def s5 : List Stage := [⟨5, false, false, 100⟩, ⟨6, true, false, 80⟩, ⟨7, false, false, 90⟩, ⟨8, false, false, 120⟩, ⟨9, false, false, 110⟩]
theorem s5_valid : Valid s5 := by
  refine ⟨by decide, fun i hi => ?_⟩
  match i, hi with
  | 0, _ => unfold okSt; decide
  | 1, _ => unfold okSt; decide
  | 2, _ => unfold okSt; decide
  | 3, _ => unfold okSt; decide
  | 4, _ => unfold okSt; decide
theorem at_s5 {A : Option Addr} {c : Nat} {b : World} {H : List Asr} (hR : Rd H A (compress (run s5))) :
    Fn Try.prog 20 [.slice A (compress (run s5)).length c, .int .i64 7] b H (fun v H' => v = .tuple #[.agg (Enc.cells (⟨6, 100, true⟩ : Running)).toArray, .bool true] ∧ H = H') :=
  (at_fn (compress (run s5)) A c 7 b H hR (by decide)).mono (by
    rintro v H' ⟨h1, h2⟩
    exact ⟨by rw [h1, show atR (compress (run s5)) 7 = ⟨6, 100, true⟩ by decide, show decide (0 ≤ bestOf (compress (run s5)) 7) = true by decide], h2⟩)

theorem awake_fn (b : World) (H : List Asr) : Fn Try.prog 17 [] b H (fun v H' => v = .bool true ∧ H = H') := by
  refine fn_of_at (by kernel_rfl) Try.func17 rfl Try.ntmps17 rfl rfl ?_
  refine at_seq ?_
  refine at_region ?_
  refine wl_read rfl rfl rfl (yl_assign rfl rfl) ?_
  refine wl_nil ?_
  refine at_keep (Keep.cons 0 rfl Keep.nil) ?_
  refine at_seq ?_
  refine at_region ?_
  refine wl_read rfl rfl rfl (yl_build (cs := Enc.cells (⟨5, false, false, 100⟩ : Stage)) rfl rfl (fun _ => by kernel_rfl)) ?_
  refine wl_read rfl rfl rfl (yl_build (cs := Enc.cells (⟨6, true, false, 80⟩ : Stage)) rfl rfl (fun _ => by kernel_rfl)) ?_
  refine wl_read rfl rfl rfl (yl_build (cs := Enc.cells (⟨7, false, false, 90⟩ : Stage)) rfl rfl (fun _ => by kernel_rfl)) ?_
  refine wl_read rfl rfl rfl (yl_build (cs := Enc.cells (⟨8, false, false, 120⟩ : Stage)) rfl rfl (fun _ => by kernel_rfl)) ?_
  refine wl_read rfl rfl rfl (yl_build (cs := Enc.cells (⟨9, false, false, 110⟩ : Stage)) rfl rfl (fun _ => by kernel_rfl)) ?_
  refine wl_eff rfl rfl rfl (ef_buildSlice (e := 37) s5 rfl rfl (fun _ => by kernel_rfl) rfl rfl) ?_
  rintro _ _ ⟨T1_5, rfl, rfl⟩
  refine wl_read rfl rfl rfl (yl_assign rfl rfl) ?_
  refine wl_nil ?_
  refine at_keep (Keep.cons 0 rfl (Keep.cons 1 rfl Keep.nil)) ?_
  refine at_seq ?_
  refine at_region ?_
  refine wl_read rfl rfl rfl (yl_move rfl rfl) ?_
  refine wl_call rfl rfl rfl (en_call rfl rfl) (run_ok s5_valid (Rd.of_sl 0 rfl)) ?_
  rintro _ _ ⟨A1, c1, rfl, rfl⟩
  refine wl_read rfl rfl rfl (yl_move rfl rfl) ?_
  refine wl_read rfl rfl rfl (yl_extract rfl rfl rfl) ?_
  refine wl_read rfl rfl rfl (yl_extract rfl rfl rfl) ?_
  refine wl_read rfl rfl rfl (yl_assign rfl rfl) ?_
  refine wl_read rfl rfl rfl (yl_assign rfl rfl) ?_
  refine wl_nil ?_
  refine at_keep (Keep.cons 0 rfl (Keep.cons 1 rfl (Keep.cons 2 rfl (Keep.cons 3 rfl Keep.nil)))) ?_
  refine at_seq ?_
  refine at_region ?_
  refine wl_read rfl rfl rfl (yl_move rfl rfl) ?_
  refine wl_call rfl rfl rfl (en_call rfl rfl) (compress_fn (run s5) _ _ _ _ (Rd.of_sl 0 rfl) (by decide)) ?_
  rintro _ _ ⟨A2, c2, rfl, rfl⟩
  refine wl_read rfl rfl rfl (yl_assign rfl rfl) ?_
  refine wl_nil ?_
  refine at_keep (Keep.cons 0 rfl (Keep.cons 1 rfl (Keep.cons 2 rfl (Keep.cons 3 rfl (Keep.cons 4 rfl Keep.nil))))) ?_
  refine at_seq ?_
  refine at_region ?_
  refine wl_read rfl rfl rfl (yl_move rfl rfl) ?_
  refine wl_call rfl rfl rfl (en_call rfl rfl) (at_s5 (Rd.of_sl 0 rfl)) ?_
  rintro _ _ ⟨rfl, rfl⟩
  refine wl_read rfl rfl rfl (yl_move rfl rfl) ?_
  refine wl_read rfl rfl rfl (yl_extract rfl rfl rfl) ?_
  refine wl_read rfl rfl rfl (yl_extract rfl rfl rfl) ?_
  refine wl_eff rfl rfl rfl (ef_alloc (cs := [.int .i64 0, .int .i64 0, .bool false]) (z := .agg #[.int .i64 0, .int .i64 0, .bool false]) rfl (by kernel_rfl) rfl) ?_
  rintro _ _ ⟨g4_5, rfl, rfl⟩
  refine wl_store rfl rfl (es_at0 (es_storeN 0 rfl rfl rfl rfl (by kernel_rfl) rfl rfl)) ?_
  refine wl_read rfl rfl rfl (yl_assign rfl rfl) ?_
  refine wl_nil ?_
  refine at_keep (Keep.cons 0 rfl (Keep.cons 1 rfl (Keep.cons 2 rfl (Keep.cons 3 rfl (Keep.cons 4 rfl (Keep.cons 5 rfl (Keep.cons 6 rfl Keep.nil))))))) ?_
  refine at_seq ?_
  refine at_region ?_
  refine wl_read rfl rfl rfl (yl_move rfl rfl) ?_
  refine wl_read rfl rfl rfl ((yp_eql rfl rfl rfl).1 rfl) ?_
  refine wl_read rfl rfl rfl (yl_move rfl rfl) ?_
  refine wl_read rfl rfl rfl (yl_move rfl rfl) ?_
  refine wl_read rfl rfl rfl (yl_len rfl rfl Try.underlying25) ?_
  refine wl_read rfl rfl rfl ((yp_eql rfl rfl rfl).1 (by decide)) ?_
  refine wl_read rfl rfl rfl (yl_pickT rfl rfl rfl) ?_
  refine wl_read rfl rfl rfl (yl_move rfl rfl) ?_
  refine wl_read rfl rfl rfl (yl_move rfl rfl) ?_
  refine wl_read rfl rfl rfl (yl_index rfl rfl rfl (Rd.of_sl 2 rfl) (show (run s5)[1]? = some (⟨6, 100, true⟩ : Running) from by decide) rfl rfl Try.underlying25 (by kernel_rfl) rfl) ?_
  refine wl_read rfl rfl rfl (yl_loadRow rfl rfl (Rd.of_sl 2 rfl) (show (run s5)[1]? = some (⟨6, 100, true⟩ : Running) from by decide) Try.underlying32 rfl (by kernel_rfl) rfl) ?_
  refine wl_read rfl rfl rfl (yl_build (cs := Enc.cells (⟨6, 100, true⟩ : Running)) rfl rfl (fun _ => by kernel_rfl)) ?_
  refine wl_read rfl rfl rfl ((yp_eqAgg rfl rfl rfl (by kernel_rfl) (eqT32 _ _) (eqF32 _ _)).1 rfl) ?_
  refine wl_read rfl rfl rfl (yl_pickT rfl rfl rfl) ?_
  refine wl_read rfl rfl rfl (yl_move rfl rfl) ?_
  refine wl_read rfl rfl rfl (yl_move rfl rfl) ?_
  refine wl_read rfl rfl rfl (yl_index rfl rfl rfl (Rd.of_sl 2 rfl) (show (run s5)[2]? = some (⟨7, 100, true⟩ : Running) from by decide) rfl rfl Try.underlying25 (by kernel_rfl) rfl) ?_
  refine wl_read rfl rfl rfl (yl_field rfl rfl Try.underlying32 rfl (by kernel_rfl) rfl) ?_
  refine wl_read rfl rfl rfl (yl_boolT (yl_load rfl rfl Try.underlying4 rfl ((Rd.of_sl 2 rfl).cell2 (show (run s5)[2]? = some (⟨7, 100, true⟩ : Running) from by decide) rfl)) rfl) ?_
  refine wl_read rfl rfl rfl (yl_pickT rfl rfl rfl) ?_
  refine wl_read rfl rfl rfl (yl_move rfl rfl) ?_
  refine wl_read rfl rfl rfl (yl_move rfl rfl) ?_
  refine wl_read rfl rfl rfl (yl_index rfl rfl rfl (Rd.of_sl 2 rfl) (show (run s5)[3]? = some (⟨8, 120, false⟩ : Running) from by decide) rfl rfl Try.underlying25 (by kernel_rfl) rfl) ?_
  refine wl_read rfl rfl rfl (yl_field rfl rfl Try.underlying32 rfl (by kernel_rfl) rfl) ?_
  refine wl_read rfl rfl rfl (yl_load rfl rfl Try.underlying3 rfl ((Rd.of_sl 2 rfl).cell2 (show (run s5)[3]? = some (⟨8, 120, false⟩ : Running) from by decide) rfl)) ?_
  refine wl_read rfl rfl rfl ((yp_eql rfl rfl rfl).1 rfl) ?_
  refine wl_read rfl rfl rfl (yl_pickT rfl rfl rfl) ?_
  refine wl_read rfl rfl rfl (yl_move rfl rfl) ?_
  refine wl_read rfl rfl rfl (yl_move rfl rfl) ?_
  refine wl_read rfl rfl rfl (yl_index rfl rfl rfl (Rd.of_sl 2 rfl) (show (run s5)[4]? = some (⟨9, 110, false⟩ : Running) from by decide) rfl rfl Try.underlying25 (by kernel_rfl) rfl) ?_
  refine wl_read rfl rfl rfl (yl_field rfl rfl Try.underlying32 rfl (by kernel_rfl) rfl) ?_
  refine wl_read rfl rfl rfl (yl_load rfl rfl Try.underlying3 rfl ((Rd.of_sl 2 rfl).cell2 (show (run s5)[4]? = some (⟨9, 110, false⟩ : Running) from by decide) rfl)) ?_
  refine wl_read rfl rfl rfl ((yp_eql rfl rfl rfl).1 rfl) ?_
  refine wl_read rfl rfl rfl (yl_pickT rfl rfl rfl) ?_
  refine wl_read rfl rfl rfl (yl_move rfl rfl) ?_
  refine wl_read rfl rfl rfl (yl_move rfl rfl) ?_
  refine wl_read rfl rfl rfl (yl_len rfl rfl Try.underlying25) ?_
  refine wl_read rfl rfl rfl ((yp_eql rfl rfl rfl).1 (by decide)) ?_
  refine wl_read rfl rfl rfl (yl_pickT rfl rfl rfl) ?_
  refine wl_read rfl rfl rfl (yl_move rfl rfl) ?_
  refine wl_read rfl rfl rfl (yl_move rfl rfl) ?_
  refine wl_read rfl rfl rfl (yl_pickT rfl rfl rfl) ?_
  refine wl_read rfl rfl rfl (yl_move rfl rfl) ?_
  refine wl_read rfl rfl rfl (yl_fieldB rfl rfl Try.underlying32 rfl (by kernel_rfl) rfl) ?_
  refine wl_read rfl rfl rfl (yl_load rfl rfl Try.underlying3 rfl (CellAt.bk 0 rfl rfl)) ?_
  refine wl_read rfl rfl rfl ((yp_eql rfl rfl rfl).1 rfl) ?_
  refine wl_read rfl rfl rfl (yl_pickT rfl rfl rfl) ?_
  refine wl_read rfl rfl rfl (yl_move rfl rfl) ?_
  refine wl_read rfl rfl rfl (yl_fieldB rfl rfl Try.underlying32 rfl (by kernel_rfl) rfl) ?_
  refine wl_read rfl rfl rfl (yl_load rfl rfl Try.underlying3 rfl (CellAt.bk 0 rfl rfl)) ?_
  refine wl_read rfl rfl rfl ((yp_eql rfl rfl rfl).1 rfl) ?_
  refine wl_read rfl rfl rfl (yl_pickT rfl rfl rfl) ?_
  refine wl_read rfl rfl rfl (yl_assign rfl rfl) ?_
  refine wl_nil ?_
  refine at_keep (Keep.cons 0 rfl (Keep.cons 1 rfl (Keep.cons 2 rfl (Keep.cons 3 rfl (Keep.cons 4 rfl (Keep.cons 5 rfl (Keep.cons 6 rfl Keep.nil))))))) ?_
  refine at_retH (fun _ hw => hw.tail.tail.tail.tail) Try.func17 (res1 rfl rfl) ?_
  exact ⟨rfl, rfl⟩
end Go.Proofs.Yteckaphnapljnaa

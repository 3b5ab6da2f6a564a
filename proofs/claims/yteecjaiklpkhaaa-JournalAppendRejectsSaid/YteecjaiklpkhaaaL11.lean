/- Records without bytes, and records that are too long, are rejected: from the contract of the law to the given statement, without conditions. -/
import Derived.Test.YteecjaiklpkhaaaS4
import Derived.Test.YteecjaiklpkhaaaO
namespace Go.Proofs.Yteecjaiklpkhaaa.journalAppendRejects
open Go Go.ChangeShapes Go.WideShapes Go.ChangeAt Go.RowKit
open Go.ChangeMaps (open_string shut_string)
set_option linter.unusedVariables false

theorem own : ownKnob Try.prog.godebug = none := by kernel_rfl
theorem laidOut : laidOutB Try.prog = true := by kernel_rfl

set_option maxRecDepth 100000 in
theorem lifted (os : Os) (started : os.Started) (H : Type) (enc : TypeId × Value → H) :
    ReturnsInHanded {} Try.checked os 11 .any (Rows.journalAppendRejectsSpec.pre6 enc Try.prog Try.f11 Rows.journalAppendRejectsRow.domain false) (Rows.journalAppendRejectsSpec.post enc Try.prog Try.f11 false true false false) := by
  refine returnsInHanded_of_change_sized (C := Try.checked) own started (by kernel_rfl) Try.func11
    (ChangeSpec.witness6 (enc := enc) (C := Try.checked) false ⟨#[], #[.slice none 0 0, .int .i64 0], []⟩ 8 (by kernel_rfl) (by kernel_rfl) (by kernel_rfl) (by kernel_rfl)) ?_
  intro W base args ds gs before hval0 hW hcnd hsz0 _
  have hval : ∀ (j : Nat) t v, Try.f11.params[j]? = some t → args[j]? = some v → Value.okWide Try.prog W .any base t v := hval0
  have hsz : (DataW.weightsEach Try.prog (Try.f11.params.toList ++ Rows.journalAppendRejectsSpec.plain.varTypes Try.prog) (ds ++ gs)).all (· ≤ reachBytes) = true := hsz0
  have hW' := hW
  obtain ⟨p, q, hA0, hV, rfl, hfz, hnd⟩ := hW
  have hA : DataW.TrodAll enc Try.prog W 0 (fun _ => true) true Try.f11.params.toList args.toList ds p := hA0
  rw [Try.params11] at hA hval hsz
  obtain ⟨v0, vs0, d0, ds0, p0, q0, hargs, rfl, rfl, h0, r0⟩ := trodAll_cons hA
  obtain ⟨v1, vs1, d1, ds1, p1, q1, rfl, rfl, rfl, h1, r1⟩ := trodAll_cons r0
  obtain ⟨rfl, rfl, rfl⟩ := trodAll_nil r1
  obtain rfl : args = #[v0, v1] := by cases args; simp_all
  obtain ⟨rfl, rfl⟩ := trodVars_none hV
  obtain ⟨a0, len0, cap0, rfl⟩ := okWide_slice Try.underlying22 (hval 0 22 v0 rfl rfl)
  have k0 := h0
  have lt0 : ∀ x ∈ p0, x.block < W.heap.size := by obtain ⟨m, hm⟩ := k0; exact DataW.trod_lt m _ _ _ hm
  obtain ⟨fuel0, hf0⟩ := h0
  obtain ⟨l0, hl0, hr0, hq0, hd0, hc0⟩ := open_enc (α := (Mem UInt8)) (fun x => RdW W x.A x.xs) Try.underlying22 (by kernel_rfl) mem_elem hf0
  have b0 : l0.length * 24 ≤ 140737488351232 := by
    rcases hd0 with h | ⟨el, sp, hde, hle⟩
    · omega
    · have h1 := sized_slice hsz (j := 0) (t := 22) (e := 30) (elems := el) (spare := sp) rfl (by subst hde; rfl) Try.underlying22
      rw [show Try.prog.bytesOf 30 = 24 from by kernel_rfl] at h1
      have h2 : (el.length + sp.length) * 24 ≤ 140737488351232 := h1
      omega
  subst hl0
  obtain ⟨a1, rfl, rfl, rfl, w1⟩ := open_int Try.underlying3 (hval 1 3 v1 rfl rfl) h1
  have b1 : I64 a1 := bd64 w1
  clear hA0 hval0 hsz0
  refine (law_calls (law11 l0 a0 cap0 a1 W [Old W] (Rd.old 0 rfl hr0) (fun m hm => Rd.old 0 rfl (hq0 m hm)))).mono fun e W' ⟨he, bel⟩ => ?_
  subst he
  exact ⟨_, rfl, _, _, _, [], _, [], hW', trodAll_mk1 (shut_bool Try.underlying4 _), (trodAll_cons_mk (Below.trod laidOut (by kernel_rfl) (of_decide_eq_true (by kernel_rfl)) k0 bel lt0) (trodAll_cons_mk (shut_int Try.underlying3 w1) trodAll_mk0)), rfl, bel.frame _, fun h => by cases h⟩

theorem over : Rows.journalAppendRejectsRow.holds Try.pinned (OpenSpec.ofChange Rows.journalAppendRejectsSpec) :=
  OpenClaim.holds_of_wide 11 Try.f11 rfl rfl rfl rfl rfl rfl rfl ⟨rfl, rfl, rfl, rfl, rfl⟩ rfl rfl rfl rfl rfl (by kernel_rfl) Try.func11 (by kernel_rfl)
    (of_decide_eq_true (by kernel_rfl)) (by unfold Func.isWrapper; first | (rw [if_pos (by decide +kernel)]; kernel_rfl) | (rw [if_neg (by decide +kernel)]; exact ⟨rfl, rfl⟩))
    (fun os started H enc _ => lifted os started H enc)

/-- The statement. -/
theorem proved : Rows.JournalAppendRejectsSaid := over
#print axioms proved
end Go.Proofs.Yteecjaiklpkhaaa.journalAppendRejects

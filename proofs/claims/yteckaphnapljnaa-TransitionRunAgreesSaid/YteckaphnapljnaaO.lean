/- The elements of slices that come in. -/
import Derived.Test.YteckaphnapljnaaK5
import Derived.Test.YteckaphnapljnaaM
import Derived.Test.YteckaphnapljnaaRows
namespace Go.Proofs.Yteckaphnapljnaa
open Go Go.ChangeShapes Go.WideShapes Go.Deep

theorem bd64 {n : Int} (h : (Lit.int .i64 n).wf = true) : I64 n := bounds_i64 h

section
variable {H : Type} {enc : TypeId × Value → H} {w : World} {base : Nat} {spare : Nat → Bool} {held : Bool}
theorem raw_elem (cs : List Value) (n : Nat) (y : DataW H × List MemPlace) (hl : cs.length = Enc.size Raw) (h : DataW.trod enc Try.prog w base spare held n 40 cs = some y) : ∃ x : Raw, Enc.cells x = cs ∧ I64 x.amount := by
  match cs, hl with
  | [c0, c1, c2], _ =>
    obtain ⟨n0, y0, h0⟩ := struct_field Try.underlying40 h (i := 0) rfl rfl (by kernel_rfl)
    obtain ⟨n1, y1, h1⟩ := struct_field Try.underlying40 h (i := 1) rfl rfl (by kernel_rfl)
    obtain ⟨n2, y2, h2⟩ := struct_field Try.underlying40 h (i := 2) rfl rfl (by kernel_rfl)
    obtain ⟨u0, e0, _⟩ := DataW.trod_bool Try.underlying4 h0
    obtain ⟨u1, e1, _⟩ := DataW.trod_bool Try.underlying4 h1
    obtain ⟨u2, e2, _, wf⟩ := DataW.trod_int Try.underlying3 h2
    simp at e0 e1 e2
    subst e0; subst e1; subst e2
    exact ⟨⟨u0, u1, u2⟩, rfl, bd64 wf⟩
theorem stage_elem (cs : List Value) (n : Nat) (y : DataW H × List MemPlace) (hl : cs.length = Enc.size Stage) (h : DataW.trod enc Try.prog w base spare held n 37 cs = some y) : ∃ x : Stage, Enc.cells x = cs ∧ (I64 x.month ∧ I64 x.amount) := by
  match cs, hl with
  | [c0, c1, c2, c3], _ =>
    obtain ⟨n0, y0, h0⟩ := struct_field Try.underlying37 h (i := 0) rfl rfl (by kernel_rfl)
    obtain ⟨n1, y1, h1⟩ := struct_field Try.underlying37 h (i := 1) rfl rfl (by kernel_rfl)
    obtain ⟨n2, y2, h2⟩ := struct_field Try.underlying37 h (i := 2) rfl rfl (by kernel_rfl)
    obtain ⟨n3, y3, h3⟩ := struct_field Try.underlying37 h (i := 3) rfl rfl (by kernel_rfl)
    obtain ⟨u0, e0, _, wf0⟩ := DataW.trod_int Try.underlying3 h0
    obtain ⟨u1, e1, _⟩ := DataW.trod_bool Try.underlying4 h1
    obtain ⟨u2, e2, _⟩ := DataW.trod_bool Try.underlying4 h2
    obtain ⟨u3, e3, _, wf⟩ := DataW.trod_int Try.underlying3 h3
    simp at e0 e1 e2 e3
    subst e0; subst e1; subst e2; subst e3
    exact ⟨⟨u0, u1, u2, u3⟩, rfl, bd64 wf0, bd64 wf⟩
theorem running_elem (cs : List Value) (n : Nat) (y : DataW H × List MemPlace) (hl : cs.length = Enc.size Running) (h : DataW.trod enc Try.prog w base spare held n 32 cs = some y) : ∃ x : Running, Enc.cells x = cs ∧ (I64 x.month ∧ I64 x.amount) := by
  match cs, hl with
  | [c0, c1, c2], _ =>
    obtain ⟨n0, y0, h0⟩ := struct_field Try.underlying32 h (i := 0) rfl rfl (by kernel_rfl)
    obtain ⟨n1, y1, h1⟩ := struct_field Try.underlying32 h (i := 1) rfl rfl (by kernel_rfl)
    obtain ⟨n2, y2, h2⟩ := struct_field Try.underlying32 h (i := 2) rfl rfl (by kernel_rfl)
    obtain ⟨u0, e0, _, wf0⟩ := DataW.trod_int Try.underlying3 h0
    obtain ⟨u1, e1, _, wf1⟩ := DataW.trod_int Try.underlying3 h1
    obtain ⟨u2, e2, _⟩ := DataW.trod_bool Try.underlying4 h2
    simp at e0 e1 e2
    subst e0; subst e1; subst e2
    exact ⟨⟨u0, u1, u2⟩, rfl, bd64 wf0, bd64 wf1⟩
end
end Go.Proofs.Yteckaphnapljnaa

/- The elements of slices that come in. -/
import Derived.Test.YtplaoddmgfcbcaaK5
import Derived.Test.YtplaoddmgfcbcaaM
import Derived.Test.YtplaoddmgfcbcaaRows
namespace Go.Proofs.Ytplaoddmgfcbcaa
open Go Go.ChangeShapes Go.WideShapes Go.Deep

theorem bd64 {n : Int} (h : (Lit.int .i64 n).wf = true) : I64 n := bounds_i64 h

section
variable {H : Type} {enc : TypeId × Value → H} {w : World} {base : Nat} {spare : Nat → Bool} {held : Bool}
theorem raw_elem (cs : List Value) (n : Nat) (y : DataW H × List MemPlace) (hl : cs.length = Enc.size Raw) (h : DataW.trod enc Try.prog w base spare held n 56 cs = some y) : ∃ x : Raw, Enc.cells x = cs ∧ I64 x.amount := by
  match cs, hl with
  | [c0, c1, c2, c3, c4], _ =>
    obtain ⟨n0, y0, h0⟩ := struct_field Try.underlying56 h (i := 0) rfl rfl (by kernel_rfl)
    obtain ⟨n1, y1, h1⟩ := struct_field Try.underlying56 h (i := 1) rfl rfl (by kernel_rfl)
    obtain ⟨n2, y2, h2⟩ := struct_field Try.underlying56 h (i := 2) rfl rfl (by kernel_rfl)
    obtain ⟨n3, y3, h3⟩ := struct_field Try.underlying56 h (i := 3) rfl rfl (by kernel_rfl)
    obtain ⟨n4, y4, h4⟩ := struct_field Try.underlying56 h (i := 4) rfl rfl (by kernel_rfl)
    obtain ⟨u0, e0, _⟩ := DataW.trod_int Try.underlying3 h0
    obtain ⟨u1, e1, _⟩ := DataW.trod_int Try.underlying3 h1
    obtain ⟨u2, e2, _⟩ := DataW.trod_int Try.underlying3 h2
    obtain ⟨u3, e3, _⟩ := DataW.trod_int Try.underlying3 h3
    obtain ⟨u4, e4, _, wf⟩ := DataW.trod_int Try.underlying3 h4
    simp at e0 e1 e2 e3 e4
    subst e0; subst e1; subst e2; subst e3; subst e4
    exact ⟨⟨u0, u1, u2, u3, u4⟩, rfl, bd64 wf⟩
theorem entry_elem (cs : List Value) (n : Nat) (y : DataW H × List MemPlace) (hl : cs.length = Enc.size Entry) (h : DataW.trod enc Try.prog w base spare held n 33 cs = some y) : ∃ x : Entry, Enc.cells x = cs ∧ True := by
  match cs, hl with
  | [c0, c1, c2, c3, c4], _ =>
    obtain ⟨n0, y0, h0⟩ := struct_field Try.underlying33 h (i := 0) rfl rfl (by kernel_rfl)
    obtain ⟨n1, y1, h1⟩ := struct_field Try.underlying33 h (i := 1) rfl rfl (by kernel_rfl)
    obtain ⟨n2, y2, h2⟩ := struct_field Try.underlying33 h (i := 2) rfl rfl (by kernel_rfl)
    obtain ⟨n3, y3, h3⟩ := struct_field Try.underlying33 h (i := 3) rfl rfl (by kernel_rfl)
    obtain ⟨n4, y4, h4⟩ := struct_field Try.underlying33 h (i := 4) rfl rfl (by kernel_rfl)
    obtain ⟨u0, e0, _⟩ := DataW.trod_int Try.underlying3 h0
    obtain ⟨u1, e1, _⟩ := DataW.trod_int Try.underlying3 h1
    obtain ⟨u2, e2, _⟩ := DataW.trod_int Try.underlying3 h2
    obtain ⟨u3, e3, _⟩ := DataW.trod_int Try.underlying3 h3
    obtain ⟨u4, e4, _⟩ := DataW.trod_int Try.underlying3 h4
    simp at e0 e1 e2 e3 e4
    subst e0; subst e1; subst e2; subst e3; subst e4
    exact ⟨⟨u0, u1, u2, u3, u4⟩, rfl, trivial⟩
end
end Go.Proofs.Ytplaoddmgfcbcaa

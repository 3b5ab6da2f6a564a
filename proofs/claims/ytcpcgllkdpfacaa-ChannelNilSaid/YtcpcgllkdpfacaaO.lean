/- The elements of slices that come in. -/
import Derived.Test.YtcpcgllkdpfacaaK5
import Derived.Test.YtcpcgllkdpfacaaM
import Derived.Test.YtcpcgllkdpfacaaRows
namespace Go.Proofs.Ytcpcgllkdpfacaa
open Go Go.ChangeShapes Go.WideShapes Go.Deep

theorem bd64 {n : Int} (h : (Lit.int .i64 n).wf = true) : I64 n := bounds_i64 h

section
variable {H : Type} {enc : TypeId × Value → H} {w : World} {base : Nat} {spare : Nat → Bool} {held : Bool}
theorem byte_elem (cs : List Value) (n : Nat) (y : DataW H × List MemPlace) (hl : cs.length = Enc.size UInt8) (h : DataW.trod enc Try.prog w base spare held n 5 cs = some y) : ∃ x : UInt8, Enc.cells x = cs ∧ True := by
  match cs, hl with
  | [c0], _ =>
    obtain ⟨u0, e0, _, wf⟩ := DataW.trod_int Try.underlying5 h
    simp at e0
    subst e0
    have hb : 0 ≤ u0 ∧ u0 ≤ 255 := bounds_u8 wf
    refine ⟨UInt8.ofNat u0.toNat, ?_, trivial⟩
    show [Value.int .u8 ((UInt8.ofNat u0.toNat).toNat : Int)] = [Value.int .u8 u0]
    have : (UInt8.ofNat u0.toNat).toNat = u0.toNat := by rw [UInt8.toNat_ofNat']; omega
    rw [this, Int.toNat_of_nonneg hb.1]
/-- In W the slice at A reads xs. -/
def RdW (W : World) (A : Option Addr) (xs : List UInt8) : Prop := xs ≠ [] → ∃ ad, A = some ad ∧ ∀ j u, (flat xs)[j]? = some u → W.cell? (ad.add j) = some u
theorem bytes_elem (cs : List Value) (n : Nat) (y : DataW H × List MemPlace) (hl : cs.length = 1) (h : DataW.trod enc Try.prog w base spare held n 27 cs = some y) : ∃ (A : Option Addr) (c : Nat) (xs : List UInt8), cs = [.slice A xs.length c] ∧ RdW w A xs := by
  match cs, hl with
  | [c0], _ =>
    have hshape : ∃ a len cap, c0 = .slice a len cap := by
      rcases open_slice Try.underlying27 h with ⟨h0, _⟩ | ⟨a, len', cap', m, n, D, Pl, hcs, _⟩
      · simp at h0; exact ⟨_, _, _, h0⟩
      · simp at hcs; exact ⟨_, _, _, hcs⟩
    obtain ⟨a, len, cap, rfl⟩ := hshape
    obtain ⟨y1, y2⟩ := y
    obtain ⟨l, hll, hr, _⟩ := open_enc (α := UInt8) (fun _ => True) Try.underlying27 (by kernel_rfl) byte_elem (a0 := a) (len := len) (cap := cap) (by simpa [Value.cells] using h)
    subst hll
    exact ⟨a, cap, l, rfl, hr⟩
theorem mem_elem (cs : List Value) (n : Nat) (y : DataW H × List MemPlace) (hl : cs.length = Enc.size (Mem UInt8)) (h : DataW.trod enc Try.prog w base spare held n 27 cs = some y) : ∃ x : Mem UInt8, Enc.cells x = cs ∧ RdW w x.A x.xs := by
  obtain ⟨A, c, xs, e, hr⟩ := bytes_elem cs n y hl h
  exact ⟨⟨A, c, xs⟩, e.symm, hr⟩
theorem raw_elem (cs : List Value) (n : Nat) (y : DataW H × List MemPlace) (hl : cs.length = Enc.size Raw) (h : DataW.trod enc Try.prog w base spare held n 45 cs = some y) : ∃ x : Raw, Enc.cells x = cs ∧ (I64 x.i ∧ RdW w x.A x.bs) := by
  match cs, hl with
  | [c0, c1, c2, c3, c4], _ =>
    obtain ⟨n0, y0, h0⟩ := struct_field Try.underlying45 h (i := 0) rfl rfl (by kernel_rfl)
    obtain ⟨n1, y1, h1⟩ := struct_field Try.underlying45 h (i := 1) rfl rfl (by kernel_rfl)
    obtain ⟨n2, y2, h2⟩ := struct_field Try.underlying45 h (i := 2) rfl rfl (by kernel_rfl)
    obtain ⟨n3, y3, h3⟩ := struct_field Try.underlying45 h (i := 3) rfl rfl (by kernel_rfl)
    obtain ⟨n4, y4, h4⟩ := struct_field Try.underlying45 h (i := 4) rfl rfl (by kernel_rfl)
    obtain ⟨u0, e0, _⟩ := DataW.trod_int Try.underlying3 h0
    obtain ⟨u1, e1, _⟩ := DataW.trod_int Try.underlying3 h1
    obtain ⟨u2, e2, _⟩ := DataW.trod_int Try.underlying3 h2
    obtain ⟨u3, e3, _, wf⟩ := DataW.trod_int Try.underlying3 h3
    obtain ⟨A, c, xs, e4, hr⟩ := bytes_elem _ n4 y4 (by rfl) h4
    simp at e0 e1 e2 e3 e4
    subst e0; subst e1; subst e2; subst e3; subst e4
    exact ⟨⟨u0, u1, u2, u3, A, c, xs⟩, rfl, bd64 wf, hr⟩
end
end Go.Proofs.Ytcpcgllkdpfacaa

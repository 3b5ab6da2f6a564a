/- The elements of slices that come in. -/
import Derived.Test.YteecjaiklpkhaaaK5
import Derived.Test.YteecjaiklpkhaaaM
import Derived.Test.YteecjaiklpkhaaaRows
namespace Go.Proofs.Yteecjaiklpkhaaa
open Go Go.ChangeShapes Go.WideShapes Go.Deep

theorem bd64 {n : Int} (h : (Lit.int .i64 n).wf = true) : I64 n := bounds_i64 h

section
variable {H : Type} {enc : TypeId × Value → H} {w : World} {base : Nat} {spare : Nat → Bool} {held : Bool}
theorem byte_elem (cs : List Value) (n : Nat) (y : DataW H × List MemPlace) (hl : cs.length = Enc.size UInt8) (h : DataW.trod enc Try.prog w base spare held n 5 cs = some y) : ∃ x : UInt8, Enc.cells x = cs ∧ True := by
  match cs, hl with
  | [c0], _ =>
    obtain ⟨u0, e0, _, wf⟩ := DataW.trod_int Try.underlying5 h
    simp at e0
    subst e0
    have hb : 0 ≤ u0 ∧ u0 ≤ 255 := bounds_u8 wf
    refine ⟨UInt8.ofNat u0.toNat, ?_, trivial⟩
    show [Value.int .u8 ((UInt8.ofNat u0.toNat).toNat : Int)] = [Value.int .u8 u0]
    have : (UInt8.ofNat u0.toNat).toNat = u0.toNat := by rw [UInt8.toNat_ofNat']; omega
    rw [this, Int.toNat_of_nonneg hb.1]
/-- In W the slice at A reads xs. -/
def RdW (W : World) (A : Option Addr) (xs : List UInt8) : Prop := xs ≠ [] → ∃ ad, A = some ad ∧ ∀ j u, (flat xs)[j]? = some u → W.cell? (ad.add j) = some u
theorem bytes_elem (cs : List Value) (n : Nat) (y : DataW H × List MemPlace) (hl : cs.length = 1) (h : DataW.trod enc Try.prog w base spare held n 30 cs = some y) : ∃ (A : Option Addr) (c : Nat) (xs : List UInt8), cs = [.slice A xs.length c] ∧ RdW w A xs := by
  match cs, hl with
  | [c0], _ =>
    have hshape : ∃ a len cap, c0 = .slice a len cap := by
      rcases open_slice Try.underlying30 h with ⟨h0, _⟩ | ⟨a, len', cap', m, n, D, Pl, hcs, _⟩
      · simp at h0; exact ⟨_, _, _, h0⟩
      · simp at hcs; exact ⟨_, _, _, hcs⟩
    obtain ⟨a, len, cap, rfl⟩ := hshape
    obtain ⟨y1, y2⟩ := y
    obtain ⟨l, hll, hr, _⟩ := open_enc (α := UInt8) (fun _ => True) Try.underlying30 (by kernel_rfl) byte_elem (a0 := a) (len := len) (cap := cap) (by simpa [Value.cells] using h)
    subst hll
    exact ⟨a, cap, l, rfl, hr⟩
theorem mem_elem (cs : List Value) (n : Nat) (y : DataW H × List MemPlace) (hl : cs.length = Enc.size (Mem UInt8)) (h : DataW.trod enc Try.prog w base spare held n 30 cs = some y) : ∃ x : Mem UInt8, Enc.cells x = cs ∧ RdW w x.A x.xs := by
  obtain ⟨A, c, xs, e, hr⟩ := bytes_elem cs n y hl h
  exact ⟨⟨A, c, xs⟩, e.symm, hr⟩
theorem bool_elem (cs : List Value) (n : Nat) (y : DataW H × List MemPlace) (hl : cs.length = Enc.size Bool) (h : DataW.trod enc Try.prog w base spare held n 4 cs = some y) : ∃ x : Bool, Enc.cells x = cs ∧ True := by
  match cs, hl with
  | [c0], _ =>
    obtain ⟨u0, e0, _⟩ := DataW.trod_bool Try.underlying4 h
    simp at e0
    subst e0
    exact ⟨u0, rfl, trivial⟩
end
end Go.Proofs.Yteecjaiklpkhaaa

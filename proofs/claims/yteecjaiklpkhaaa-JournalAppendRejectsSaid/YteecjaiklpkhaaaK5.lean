/-
  Arguments that came in: a slice of structs read as a list; from a contract to what a row asks.
-/
import Derived.Test.YteecjaiklpkhaaaK4
import Derived.ProofKit
import Derived.OpenShut
import Derived.ShutString
import Derived.ChangeOld
import Derived.SizedLaws
import Derived.Deep.Slices
namespace Go.Proofs.Yteecjaiklpkhaaa
open Go Go.ChangeShapes Go.WideShapes Go.Deep

section
variable {H : Type} {enc : TypeId × Value → H} {P : Program} {w : World} {base : Nat} {spare : Nat → Bool} {held : Bool}

theorem struct_field {t : TypeId} {fs : Array Field} {fuel : Nat} {cs : List Value} {x : DataW H × List MemPlace} (ht : P.underlying t = some (.struct fs)) (h : DataW.trod enc P w base spare held fuel t cs = some x) {i : Nat} {f : Field} {off : Nat}
    (hf : fs[i]? = some f) (ho : f.offset = off) (hc : P.cellsOf f.type = 1) : ∃ n y, DataW.trod enc P w base spare held n f.type ((cs.drop off).take 1) = some y := by
  obtain ⟨xs, n, _, _, _, hl, hg⟩ := DataW.trod_struct ht h
  have h1 := hg i f hf
  have hi : i < xs.length := by rw [hl]; exact (Array.getElem?_eq_some_iff.1 hf).1
  rw [hc, ho, List.getElem?_eq_getElem hi] at h1
  exact ⟨n, _, h1⟩

theorem choose_list {α : Type} (Q : Nat → α → Prop) : ∀ n, (∀ i, i < n → ∃ x, Q i x) → ∃ l : List α, l.length = n ∧ ∀ i x, l[i]? = some x → Q i x
  | 0, _ => ⟨[], rfl, fun i x hx => by simp at hx⟩
  | n + 1, h => by
    obtain ⟨l, hl, hq⟩ := choose_list Q n (fun i hi => h i (by omega))
    obtain ⟨x, hx⟩ := h n (by omega)
    refine ⟨l ++ [x], by simp [hl], fun i y hy => ?_⟩
    rcases Nat.lt_or_ge i n with hi | hi
    · rw [List.getElem?_append_left (by omega)] at hy
      exact hq i y hy
    · have hlt : i < (l ++ [x]).length := (List.getElem?_eq_some_iff.1 hy).1
      simp [hl] at hlt
      have : i = l.length := by omega
      subst this
      simp at hy
      subst hy
      rw [hl]; exact hx

/-- A slice that came in, as a list. -/
theorem open_enc {α : Type} [Enc α] (Q : α → Prop) {t e : TypeId} {fuel : Nat} {a0 : Option Addr} {len cap : Nat} {d : DataW H} {p : List MemPlace} (ht : P.underlying t = some (.slice e)) (hC : P.cellsOf e = Enc.size α)
    (hel : ∀ (cs : List Value) (n : Nat) (y : DataW H × List MemPlace), cs.length = Enc.size α → DataW.trod enc P w base spare held n e cs = some y → ∃ x : α, Enc.cells x = cs ∧ Q x)
    (h : DataW.trod enc P w base spare held fuel t (Value.slice a0 len cap).cells.toList = some (d, p)) :
    ∃ l : List α, l.length = len ∧ (l ≠ [] → ∃ ad, a0 = some ad ∧ ∀ j u, (flat l)[j]? = some u → w.cell? (ad.add j) = some u) ∧ (∀ x, x ∈ l → Q x) ∧ (len = 0 ∨ ∃ el sp, d = .slice el sp ∧ el.length = len) ∧ len ≤ cap := by
  have h' : DataW.trod enc P w base spare held fuel t [.slice a0 len cap] = some (d, p) := by simpa [Value.cells] using h
  rcases open_slice ht h' with ⟨h0, _⟩ | ⟨a, len', cap', m, n, D, Pl, hcs, _, hlc, _, hm, hx, hi⟩
  · simp only [List.cons.injEq, Value.slice.injEq, and_true] at h0
    obtain ⟨rfl, rfl, rfl⟩ := h0
    exact ⟨[], rfl, fun h => absurd rfl h, fun x hx => by simp at hx, .inl rfl, Nat.le_refl _⟩
  · simp only [List.cons.injEq, Value.slice.injEq, and_true] at hcs
    obtain ⟨rfl, rfl, rfl⟩ := hcs
    have hlm : len ≤ m := by rw [hm]; split <;> omega
    obtain ⟨l, hl, hq⟩ := choose_list (fun i (x : α) => (∀ j, j < Enc.size α → w.cell? (a.add (i * Enc.size α + j)) = (Enc.cells x)[j]?) ∧ Q x) len (fun i hil => by
      obtain ⟨cs', hc, hd⟩ := hi i (by omega)
      rw [hC] at hc
      obtain ⟨_, hlen, hat⟩ := World.cells?_some hc
      obtain ⟨x, hxc, hQ⟩ := hel cs' n _ hlen hd
      exact ⟨x, fun j hj => by rw [← add_add, hat j hj, hxc], hQ⟩)
    refine ⟨l, hl, fun _ => ⟨a, rfl, fun j u hu => ?_⟩, fun x hx => ?_, .inr ⟨_, _, (Prod.mk.inj hx).1, by simp⟩, hlc⟩
    · obtain ⟨k, x, i, hk, hil, rfl⟩ := flat_inj_at l j (List.getElem?_eq_some_iff.1 hu).1
      obtain ⟨v, hv⟩ : ∃ v, (Enc.cells x)[i]? = some v := ⟨_, List.getElem?_eq_getElem (by rw [Enc.len]; exact hil)⟩
      have := flat_get l k x i v hk hv
      rw [hu] at this
      rw [(hq k x hk).1 i hil, hv, this]
    · obtain ⟨i, hi', rfl⟩ := List.getElem_of_mem hx
      exact (hq i _ (List.getElem?_eq_getElem hi')).2
end

/-- What a law's contract gives to its row. -/
theorem law_calls {P : Program} {f : FuncId} {args : List Value} {W : World} (h : Fn P f args W [Old W] (fun v H' => v = .bool true ∧ [Old W] = H')) :
    Calls P f args.toArray W fun e W' => e = .returned (.bool true) ∧ Go.RowKit.Below W.heap.size W W' :=
  (h.2 W (Holds.old W)).mono fun e W' hr => by
    obtain ⟨v, H', he, ⟨hv, hH⟩, hh⟩ := hr
    subst hv
    refine ⟨he, Holds.below (H := H') 0 (by rw [← hH]; rfl) hh⟩
end Go.Proofs.Yteecjaiklpkhaaa

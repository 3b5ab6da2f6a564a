/-
  The bytes of a literal: the conversion marks their row behind its end; they are only read from then on.
-/
import Derived.Test.YteecjaiklpkhaaaK8
namespace Go.Proofs.Yteecjaiklpkhaaa
open Go

theorem ef_litBytes {P : Program} {N : Nat} {L : List (Nat × Value)} {o : Oper} {H : List Asr} {b : World} {t e : TypeId} {x : Operand} {A : Option Addr} {c : Nat} {xs : List UInt8} (n : Nat) (ho : o.op = .convert t t x) (hx : ev L x = some (.slice A xs.length c)) (hn : H[n]? = some (Sl A c e xs)) (hne : xs ≠ [])
    (ht : P.underlying t = some (.slice e)) (he : P.underlying e = some (.int .u8)) : Ef P N L o b H (fun v H' => v = .slice A xs.length c ∧ H' = H.set n (Pool [(⟨A, c, xs⟩ : Mem UInt8)])) := by
  intro a w hf hw
  obtain ⟨DA, hon, hup⟩ := hw.update hn
  rcases hon with ⟨_, _, h3, _⟩ | ⟨g, cur, h1, h2, h3, h4, h5, h6, h7⟩
  · exact absurd h3 hne
  have hg : w.heap[g]? = some (.cells cur e (0, 0)) := h3
  subst h1
  have hsh : w.shape? g = some (e, cur.size) := by unfold World.shape?; rw [hg]
  have hrun : (convert t t (.slice (some ⟨g, 0, none⟩) xs.length c)).run P w = .ok (.slice (some ⟨g, 0, none⟩) xs.length c) (w.freeze ⟨g, cur.size, none⟩ 1) := by
    simp [convert, run_underlying ht, run_underlying he, markStringish, hsh]
  have hfz : ∃ fr, (w.freeze ⟨g, cur.size, none⟩ 1).heap[g]? = some (.cells cur e fr) := by
    unfold World.freeze
    rw [if_neg (by decide)]
    simp only [Array.getElem?_modify, if_true, hg, Option.map_some]
    exact ⟨_, rfl⟩
  obtain ⟨fr, hfz⟩ := hfz
  have hfar : ∀ g', g' ≠ g → (w.freeze ⟨g, cur.size, none⟩ 1).heap[g']? = w.heap[g']? := by
    intro g' hg'
    unfold World.freeze
    rw [if_neg (by decide)]
    simp only [Array.getElem?_modify]
    rw [if_neg (fun e => hg' e.symm)]
  refine ⟨_, w.freeze ⟨g, cur.size, none⟩ 1, _, ?_, ⟨rfl, rfl⟩, hup _ _ [g] ?_ ?_ ?_ ⟨fun g' hg' => ?_, fun m hm hx => ?_⟩ (fun g' _ hne => hfar g' (fun e => hne (by rw [h2]; simp [e]))) (by simp) (fun x hx => .inl (by rw [h2]; exact hx))⟩
  · simp [execOp, ho, hf.ev hx, hrun]
  · unfold World.freeze; split <;> rfl
  · unfold World.freeze; split <;> rfl
  · unfold World.freeze; split <;> rfl
  · simp only [List.mem_singleton] at hg'
    subst hg'
    show ((w.freeze ⟨g', cur.size, none⟩ 1).heap[g']?).isSome = true
    rw [hfz]; rfl
  · simp only [List.mem_singleton] at hm
    subst hm
    refine ⟨⟨g, 0, none⟩, rfl, by simp, fun j u hu w' hw' => ?_⟩
    have h8 : w'.heap[g]? = some (.cells cur e fr) := (hw' g (by simp)).trans hfz
    rw [add_mk, Nat.zero_add, cell_of_row w' g j cur e fr h8]
    have hu' : (flat xs)[j]? = some u := hu
    rw [← h7, List.getElem?_take] at hu'
    split at hu'
    · simpa using hu'
    · cases hu'
end Go.Proofs.Yteecjaiklpkhaaa

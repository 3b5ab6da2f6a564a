/- What a call does to two channels side by side. -/
import Derived.Test.YtcpcgllkdpfacaaM
namespace Go.Proofs.Ytcpcgllkdpfacaa
open Go

section
variable {b w : World} {H : List Asr} {A X1 X2 X3 X4 X5 X6 X7 X8 : Asr}
theorem Holds.front7 (hw : Holds b (X1 :: X2 :: X3 :: X4 :: X5 :: X6 :: X7 :: A :: H) w) : Holds b (A :: X1 :: X2 :: X3 :: X4 :: X5 :: X6 :: X7 :: H) w := hw.perm (List.perm_middle (l₁ := [X1, X2, X3, X4, X5, X6, X7]))
theorem Holds.front8 (hw : Holds b (X1 :: X2 :: X3 :: X4 :: X5 :: X6 :: X7 :: X8 :: A :: H) w) : Holds b (A :: X1 :: X2 :: X3 :: X4 :: X5 :: X6 :: X7 :: X8 :: H) w := hw.perm (List.perm_middle (l₁ := [X1, X2, X3, X4, X5, X6, X7, X8]))
theorem Holds.drop4 (hw : Holds b (X1 :: X2 :: X3 :: X4 :: A :: H) w) : Holds b (X1 :: X2 :: X3 :: X4 :: H) w := hw.front4.tail
theorem Holds.drop5 (hw : Holds b (X1 :: X2 :: X3 :: X4 :: X5 :: A :: H) w) : Holds b (X1 :: X2 :: X3 :: X4 :: X5 :: H) w := hw.front5.tail
end
theorem SOk.mono {s : Sc} {n : Nat} (h : SOk s n) : SOk s (n + 1) :=
  ⟨h.same, h.inp, h.inq, h.szp, h.szq, by have := h.len; omega, by have := h.ks; omega, by have := h.kd; omega, by have := h.kl; omega, by have := h.kr; omega, h.cons⟩
theorem SOk.to {s : Sc} {n m : Nat} (h : SOk s n) (hm : n ≤ m) : SOk s m :=
  ⟨h.same, h.inp, h.inq, h.szp, h.szq, by have := h.len; omega, by have := h.ks; omega, by have := h.kd; omega, by have := h.kl; omega, by have := h.kr; omega, h.cons⟩

theorem SOk.add {s : Sc} {n : Nat} (h : SOk s n) (mp mq : Msg) (habs : mp.abs = mq.abs) (hz : mp.bs.length ≤ 1000) (k' : Cts) (hk : (k' = { s.k with sent := s.k.sent + 1 }) ∨ (k' = { s.k with rep := s.k.rep + 1 })) :
    SOk ⟨s.p ++ [mp], s.q ++ [mq], k', mq.mem :: mp.mem :: s.pl⟩ (n + 1) := by
  have hb : mq.bs = mp.bs := by unfold Msg.abs at habs; simp at habs; exact habs.2.2.symm
  have h1 := h.len
  have h2 := h.ks
  have h3 := h.kd
  have h4 := h.kl
  have h5 := h.kr
  have h6 := h.cons
  refine ⟨by simp only [List.map_append]; rw [h.same]; simp [habs], fun m hm => ?_, fun m hm => ?_, fun m hm => ?_, fun m hm => ?_, by simp; omega, ?_, ?_, ?_, ?_, ?_⟩
  · rcases List.mem_append.1 hm with hm | hm
    · exact List.mem_cons_of_mem _ (List.mem_cons_of_mem _ (h.inp m hm))
    · simp at hm; subst hm; exact List.mem_cons_of_mem _ List.mem_cons_self
  · rcases List.mem_append.1 hm with hm | hm
    · exact List.mem_cons_of_mem _ (List.mem_cons_of_mem _ (h.inq m hm))
    · simp at hm; subst hm; exact List.mem_cons_self
  · rcases List.mem_append.1 hm with hm | hm
    · exact h.szp m hm
    · simp at hm; subst hm; exact hz
  · rcases List.mem_append.1 hm with hm | hm
    · exact h.szq m hm
    · simp at hm; subst hm; rw [hb]; exact hz
  all_goals rcases hk with rfl | rfl <;> simp <;> omega

theorem SOk.cut {s : Sc} {n : Nat} (h : SOk s n) (j : Nat) (hj : j < s.p.length) (k' : Cts) (hk : (k' = { s.k with del := s.k.del + 1 }) ∨ (k' = { s.k with lost := s.k.lost + 1 })) :
    SOk ⟨s.p.eraseIdx j, s.q.eraseIdx j, k', s.pl⟩ (n + 1) := by
  have h1 := h.len
  have h2 := h.ks
  have h3 := h.kd
  have h4 := h.kl
  have h5 := h.kr
  have h6 := h.cons
  have hel : (s.p.eraseIdx j).length = s.p.length - 1 := by rw [List.length_eraseIdx, if_pos hj]
  refine ⟨?_, fun m hm => h.inp m (List.mem_of_mem_eraseIdx hm), fun m hm => h.inq m (List.mem_of_mem_eraseIdx hm), fun m hm => h.szp m (List.mem_of_mem_eraseIdx hm), fun m hm => h.szq m (List.mem_of_mem_eraseIdx hm), by show (s.p.eraseIdx j).length ≤ n + 1; omega, ?_, ?_, ?_, ?_, ?_⟩
  · show (s.p.eraseIdx j).map Msg.abs = (s.q.eraseIdx j).map Msg.abs
    rw [List.eraseIdx_eq_take_drop_succ, List.eraseIdx_eq_take_drop_succ, List.map_append, List.map_append, List.map_take, List.map_take, List.map_drop, List.map_drop, h.same]
  all_goals rcases hk with rfl | rfl <;> simp [hel] <;> omega

theorem okP {s : Sc} {n : Nat} {H : List Asr} (h : SOk s n) (hn : n ≤ 400) (i : Nat) (hi : H[i]? = some (Pool s.pl)) : Ok H s.p :=
  ⟨by have := h.len; omega, fun m hm => Rd.pool (m := m.mem) i hi (h.inp m hm), h.szp⟩
theorem okQ {s : Sc} {n : Nat} {H : List Asr} (h : SOk s n) (hn : n ≤ 400) (i : Nat) (hi : H[i]? = some (Pool s.pl)) : Ok H s.q :=
  ⟨by have := h.len; have := h.lenq; omega, fun m hm => Rd.pool (m := m.mem) i hi (h.inq m hm), h.szq⟩

/-- The place that a step asks for. -/
def iv (s : Sc) (i : Int) : Int := md i ((s.p.length : Int) + 2) - md (i.tdiv 100) 2
end Go.Proofs.Ytcpcgllkdpfacaa

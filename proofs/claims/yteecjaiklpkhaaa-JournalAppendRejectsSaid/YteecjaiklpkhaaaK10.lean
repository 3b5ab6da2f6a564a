/-
  Bits and shifts of integers; arrays by index.
-/
import Derived.Test.YteecjaiklpkhaaaK8
import Derived.Laws.BitsAllLaws
namespace Go.Proofs.Yteecjaiklpkhaaa
open Go

section bits
variable {P : Program} {N : Nat} {L : List (Nat × Value)} {o : Oper} {H : List Asr}
theorem yl_xor {t t2 : TypeId} {x y : Operand} {k : IntKind} {m n r : Int} (ho : o.op = .binOp .xor t x y t2) (hx : ev L x = some (.int k m)) (hy : ev L y = some (.int k n)) (hr : bits .xor k m n = r) : Yl P N L o (.int k r) H :=
  yl_bin ho hx hy fun w => by subst hr; simp [binOp_xor, intBits_xor]
theorem yl_and {t t2 : TypeId} {x y : Operand} {k : IntKind} {m n r : Int} (ho : o.op = .binOp .and t x y t2) (hx : ev L x = some (.int k m)) (hy : ev L y = some (.int k n)) (hr : bits .and k m n = r) : Yl P N L o (.int k r) H :=
  yl_bin ho hx hy fun w => by subst hr; simp [binOp_and, intBits_and]
theorem yl_or {t t2 : TypeId} {x y : Operand} {k : IntKind} {m n r : Int} (ho : o.op = .binOp .or t x y t2) (hx : ev L x = some (.int k m)) (hy : ev L y = some (.int k n)) (hr : bits .or k m n = r) : Yl P N L o (.int k r) H :=
  yl_bin ho hx hy fun w => by subst hr; simp [binOp_or, intBits_or]
theorem yl_shr {t t2 : TypeId} {x y : Operand} {k k2 : IntKind} {m n r : Int} (ho : o.op = .binOp .shr t x y t2) (hx : ev L x = some (.int k m)) (hy : ev L y = some (.int k2 n)) (h0 : 0 ≤ n) (h1 : n ≤ k.bits) (hr : m / 2 ^ n.toNat = r) : Yl P N L o (.int k r) H :=
  yl_bin ho hx hy fun w => by subst hr; rw [binOp_shr, shift_shr k k2 m n h0 h1]; rfl
theorem yl_shl {t t2 : TypeId} {x y : Operand} {k k2 : IntKind} {m n r : Int} (ho : o.op = .binOp .shl t x y t2) (hx : ev L x = some (.int k m)) (hy : ev L y = some (.int k2 n)) (h0 : 0 ≤ n) (h1 : n ≤ k.bits) (hr : k.wrap (m * 2 ^ n.toNat) = r) : Yl P N L o (.int k r) H :=
  yl_bin ho hx hy fun w => by subst hr; rw [binOp_shl, shift_shl k k2 m n h0 h1]; rfl
theorem yl_unXor {t : TypeId} {x : Operand} {k : IntKind} {n r : Int} (ho : o.op = .unOp .xor t x) (hx : ev L x = some (.int k n)) (hr : bits .xor k (if k.signed then -1 else k.max) n = r) : Yl P N L o (.int k r) H := fun a _ w hf _ => by
  subst hr
  simp [execOp, ho, hf.ev hx, unary_xor, intBits_xor]

theorem ofInt64 (a : Nat) (ha : a < 18446744073709551616) : (BitVec.ofInt 64 (a : Int)).toNat = a := by
  rw [BitVec.ofInt_natCast, BitVec.toNat_ofNat]; exact Nat.mod_eq_of_lt (by omega)
theorem or64 (a b : Nat) (ha : a < 4611686018427387904) (hb : b < 4611686018427387904) : bits .or .i64 (a : Int) (b : Int) = ((a ||| b : Nat) : Int) := by
  have hx : a ||| b < 2 ^ 62 := Nat.or_lt_two_pow (by omega) (by omega)
  show IntKind.i64.wrap ((BitVec.ofInt 64 (a : Int) ||| BitVec.ofInt 64 (b : Int)).toNat : Int) = _
  rw [BitVec.toNat_or, ofInt64 a (by omega), ofInt64 b (by omega)]
  exact w64 (by omega) (by omega)
/-- Eight bits more. -/
theorem or64_push (a b : Nat) (ha : a < 18014398509481984) (hb : b < 256) : bits .or .i64 ((a * 256 : Nat) : Int) (b : Int) = ((a * 256 + b : Nat) : Int) := by
  rw [or64 _ _ (by omega) (by omega)]
  have := Nat.two_pow_add_eq_or_of_lt (i := 8) (b := b) (by omega) a
  rw [Nat.mul_comm a 256]
  exact congrArg _ this.symm
theorem wrap8 (n : Nat) : IntKind.u8.wrap (n : Int) = (((UInt8.ofNat n).toNat : Nat) : Int) := by
  rw [IntKind.wrap_u8', UInt8.toNat_ofNat']; omega
/-- Whatever number in a byte's type is a byte. -/
theorem wrap8_ex (n : Int) : ∃ x : UInt8, IntKind.u8.wrap n = ((x.toNat : Nat) : Int) := by
  refine ⟨UInt8.ofNat (n % 256).toNat, ?_⟩
  rw [IntKind.wrap_u8', UInt8.toNat_ofNat']; omega
theorem xor8_ex (a b : UInt8) : bits .xor .u8 ((a.toNat : Nat) : Int) ((b.toNat : Nat) : Int) = (((a ^^^ b).toNat : Nat) : Int) := by
  rw [u8_xor_nat _ _ a.toNat_lt b.toNat_lt, UInt8.toNat_xor]

/-- An element of an array in a block of its own. -/
theorem yl_indexArr {t e : TypeId} {x ix : Operand} {g n j : Nat} {k : IntKind} {i : Int} (ho : o.op = .indexAddr t x ix) (hx : ev L x = some (.pointer (some ⟨g, 0, none⟩))) (hi : ev L ix = some (.int k i))
    (hij : i = (j : Int)) (hn : j < n) (ht : P.underlying t = some (.array n e)) (hs : P.cellsOf e = 1) : Yl P N L o (.pointer (some ⟨g, j, none⟩)) H := by
  intro a b w hf hw
  subst hij
  cases hq : P.info? e with
  | none => simp [Program.cellsOf, hq] at hs
  | some jj =>
    have hsz : jj.size = 1 := by simpa [Program.cellsOf, hq] using hs
    simp [execOp, ho, hf.ev hx, hf.ev hi, Instr.indexAt, Instr.sureAddr, asIntOf, run_underlying ht, hn, sizeOf, typeInfo, hq, hsz, add_mk]
variable {b : World}
theorem es_at5 {A A' X0 X1 X2 X3 X4 : Asr} (h : Es P N L o b (X0 :: X1 :: X2 :: X3 :: X4 :: A :: H) ((X0 :: X1 :: X2 :: X3 :: X4 :: A :: H).set 5 A')) : Es P N L o b (X0 :: X1 :: X2 :: X3 :: X4 :: A :: H) (X0 :: X1 :: X2 :: X3 :: X4 :: A' :: H) := h
theorem es_at6 {A A' X0 X1 X2 X3 X4 X5 : Asr} (h : Es P N L o b (X0 :: X1 :: X2 :: X3 :: X4 :: X5 :: A :: H) ((X0 :: X1 :: X2 :: X3 :: X4 :: X5 :: A :: H).set 6 A')) : Es P N L o b (X0 :: X1 :: X2 :: X3 :: X4 :: X5 :: A :: H) (X0 :: X1 :: X2 :: X3 :: X4 :: X5 :: A' :: H) := h
theorem es_at7 {A A' X0 X1 X2 X3 X4 X5 X6 : Asr} (h : Es P N L o b (X0 :: X1 :: X2 :: X3 :: X4 :: X5 :: X6 :: A :: H) ((X0 :: X1 :: X2 :: X3 :: X4 :: X5 :: X6 :: A :: H).set 7 A')) : Es P N L o b (X0 :: X1 :: X2 :: X3 :: X4 :: X5 :: X6 :: A :: H) (X0 :: X1 :: X2 :: X3 :: X4 :: X5 :: X6 :: A' :: H) := h
theorem es_at8 {A A' X0 X1 X2 X3 X4 X5 X6 X7 : Asr} (h : Es P N L o b (X0 :: X1 :: X2 :: X3 :: X4 :: X5 :: X6 :: X7 :: A :: H) ((X0 :: X1 :: X2 :: X3 :: X4 :: X5 :: X6 :: X7 :: A :: H).set 8 A')) : Es P N L o b (X0 :: X1 :: X2 :: X3 :: X4 :: X5 :: X6 :: X7 :: A :: H) (X0 :: X1 :: X2 :: X3 :: X4 :: X5 :: X6 :: X7 :: A' :: H) := h
end bits

/-- The end without a return, and of the heap what the contract speaks of. -/
theorem at_endH {P : Program} {f : FuncId} {fn : Func} {N : Nat} {L : List (Nat × Value)} {b : World} {H H2 : List Asr} {R : Value → List Asr → Prop} {v : Value} (hh : ∀ w, Holds b H w → Holds b H2 w) (hf : P.funcs[f]? = some fn) (hv : Res P fn N L H v) (hR : R v H2) :
    At P f (Rf b R) N [] L b H := by
  intro a w hfit hw fr hfn hk cs
  refine ⟨.returned v, w, { fr.at a [] with mode := .returning }, ⟨v, H2, rfl, hR, hh w hw⟩, .one step_end, hfn, rfl, hfit.defers, hk, fn, ?_, hv a b w hfit hw⟩
  simpa [Frame.at, hfn] using hf
section more
variable {b w : World} {H : List Asr} {A X1 X2 X3 X4 X5 X6 X7 X8 X9 X10 X11 X12 X13 X14 X15 X16 : Asr}
theorem Holds.front7 (hw : Holds b (X1 :: X2 :: X3 :: X4 :: X5 :: X6 :: X7 :: A :: H) w) : Holds b (A :: X1 :: X2 :: X3 :: X4 :: X5 :: X6 :: X7 :: H) w := hw.perm (List.perm_middle (l₁ := [X1, X2, X3, X4, X5, X6, X7]))
theorem Holds.front8 (hw : Holds b (X1 :: X2 :: X3 :: X4 :: X5 :: X6 :: X7 :: X8 :: A :: H) w) : Holds b (A :: X1 :: X2 :: X3 :: X4 :: X5 :: X6 :: X7 :: X8 :: H) w := hw.perm (List.perm_middle (l₁ := [X1, X2, X3, X4, X5, X6, X7, X8]))
theorem Holds.front9 (hw : Holds b (X1 :: X2 :: X3 :: X4 :: X5 :: X6 :: X7 :: X8 :: X9 :: A :: H) w) : Holds b (A :: X1 :: X2 :: X3 :: X4 :: X5 :: X6 :: X7 :: X8 :: X9 :: H) w := hw.perm (List.perm_middle (l₁ := [X1, X2, X3, X4, X5, X6, X7, X8, X9]))
theorem Holds.front10 (hw : Holds b (X1 :: X2 :: X3 :: X4 :: X5 :: X6 :: X7 :: X8 :: X9 :: X10 :: A :: H) w) : Holds b (A :: X1 :: X2 :: X3 :: X4 :: X5 :: X6 :: X7 :: X8 :: X9 :: X10 :: H) w := hw.perm (List.perm_middle (l₁ := [X1, X2, X3, X4, X5, X6, X7, X8, X9, X10]))
theorem Holds.front11 (hw : Holds b (X1 :: X2 :: X3 :: X4 :: X5 :: X6 :: X7 :: X8 :: X9 :: X10 :: X11 :: A :: H) w) : Holds b (A :: X1 :: X2 :: X3 :: X4 :: X5 :: X6 :: X7 :: X8 :: X9 :: X10 :: X11 :: H) w := hw.perm (List.perm_middle (l₁ := [X1, X2, X3, X4, X5, X6, X7, X8, X9, X10, X11]))
theorem Holds.front12 (hw : Holds b (X1 :: X2 :: X3 :: X4 :: X5 :: X6 :: X7 :: X8 :: X9 :: X10 :: X11 :: X12 :: A :: H) w) : Holds b (A :: X1 :: X2 :: X3 :: X4 :: X5 :: X6 :: X7 :: X8 :: X9 :: X10 :: X11 :: X12 :: H) w := hw.perm (List.perm_middle (l₁ := [X1, X2, X3, X4, X5, X6, X7, X8, X9, X10, X11, X12]))
theorem Holds.front13 (hw : Holds b (X1 :: X2 :: X3 :: X4 :: X5 :: X6 :: X7 :: X8 :: X9 :: X10 :: X11 :: X12 :: X13 :: A :: H) w) : Holds b (A :: X1 :: X2 :: X3 :: X4 :: X5 :: X6 :: X7 :: X8 :: X9 :: X10 :: X11 :: X12 :: X13 :: H) w := hw.perm (List.perm_middle (l₁ := [X1, X2, X3, X4, X5, X6, X7, X8, X9, X10, X11, X12, X13]))
theorem Holds.front14 (hw : Holds b (X1 :: X2 :: X3 :: X4 :: X5 :: X6 :: X7 :: X8 :: X9 :: X10 :: X11 :: X12 :: X13 :: X14 :: A :: H) w) : Holds b (A :: X1 :: X2 :: X3 :: X4 :: X5 :: X6 :: X7 :: X8 :: X9 :: X10 :: X11 :: X12 :: X13 :: X14 :: H) w := hw.perm (List.perm_middle (l₁ := [X1, X2, X3, X4, X5, X6, X7, X8, X9, X10, X11, X12, X13, X14]))
theorem Holds.down5 (hw : Holds b (A :: X1 :: X2 :: X3 :: X4 :: X5 :: H) w) : Holds b (X1 :: X2 :: X3 :: X4 :: X5 :: A :: H) w := hw.perm (List.perm_middle (l₁ := [X1, X2, X3, X4, X5])).symm
theorem Holds.down6 (hw : Holds b (A :: X1 :: X2 :: X3 :: X4 :: X5 :: X6 :: H) w) : Holds b (X1 :: X2 :: X3 :: X4 :: X5 :: X6 :: A :: H) w := hw.perm (List.perm_middle (l₁ := [X1, X2, X3, X4, X5, X6])).symm
theorem Holds.down7 (hw : Holds b (A :: X1 :: X2 :: X3 :: X4 :: X5 :: X6 :: X7 :: H) w) : Holds b (X1 :: X2 :: X3 :: X4 :: X5 :: X6 :: X7 :: A :: H) w := hw.perm (List.perm_middle (l₁ := [X1, X2, X3, X4, X5, X6, X7])).symm
theorem Holds.drop4 (hw : Holds b (X1 :: X2 :: X3 :: X4 :: A :: H) w) : Holds b (X1 :: X2 :: X3 :: X4 :: H) w := hw.front4.tail
theorem Holds.drop5 (hw : Holds b (X1 :: X2 :: X3 :: X4 :: X5 :: A :: H) w) : Holds b (X1 :: X2 :: X3 :: X4 :: X5 :: H) w := hw.front5.tail
theorem Holds.drop6 (hw : Holds b (X1 :: X2 :: X3 :: X4 :: X5 :: X6 :: A :: H) w) : Holds b (X1 :: X2 :: X3 :: X4 :: X5 :: X6 :: H) w := hw.front6.tail
theorem Holds.drop7 (hw : Holds b (X1 :: X2 :: X3 :: X4 :: X5 :: X6 :: X7 :: A :: H) w) : Holds b (X1 :: X2 :: X3 :: X4 :: X5 :: X6 :: X7 :: H) w := hw.front7.tail
theorem Holds.drop8 (hw : Holds b (X1 :: X2 :: X3 :: X4 :: X5 :: X6 :: X7 :: X8 :: A :: H) w) : Holds b (X1 :: X2 :: X3 :: X4 :: X5 :: X6 :: X7 :: X8 :: H) w := hw.front8.tail
theorem Holds.drop9 (hw : Holds b (X1 :: X2 :: X3 :: X4 :: X5 :: X6 :: X7 :: X8 :: X9 :: A :: H) w) : Holds b (X1 :: X2 :: X3 :: X4 :: X5 :: X6 :: X7 :: X8 :: X9 :: H) w := hw.front9.tail
theorem Holds.drop10 (hw : Holds b (X1 :: X2 :: X3 :: X4 :: X5 :: X6 :: X7 :: X8 :: X9 :: X10 :: A :: H) w) : Holds b (X1 :: X2 :: X3 :: X4 :: X5 :: X6 :: X7 :: X8 :: X9 :: X10 :: H) w := hw.front10.tail
theorem Holds.drop11 (hw : Holds b (X1 :: X2 :: X3 :: X4 :: X5 :: X6 :: X7 :: X8 :: X9 :: X10 :: X11 :: A :: H) w) : Holds b (X1 :: X2 :: X3 :: X4 :: X5 :: X6 :: X7 :: X8 :: X9 :: X10 :: X11 :: H) w := hw.front11.tail
theorem Holds.drop12 (hw : Holds b (X1 :: X2 :: X3 :: X4 :: X5 :: X6 :: X7 :: X8 :: X9 :: X10 :: X11 :: X12 :: A :: H) w) : Holds b (X1 :: X2 :: X3 :: X4 :: X5 :: X6 :: X7 :: X8 :: X9 :: X10 :: X11 :: X12 :: H) w := hw.front12.tail
theorem Holds.drop13 (hw : Holds b (X1 :: X2 :: X3 :: X4 :: X5 :: X6 :: X7 :: X8 :: X9 :: X10 :: X11 :: X12 :: X13 :: A :: H) w) : Holds b (X1 :: X2 :: X3 :: X4 :: X5 :: X6 :: X7 :: X8 :: X9 :: X10 :: X11 :: X12 :: X13 :: H) w := hw.front13.tail
theorem Holds.drop14 (hw : Holds b (X1 :: X2 :: X3 :: X4 :: X5 :: X6 :: X7 :: X8 :: X9 :: X10 :: X11 :: X12 :: X13 :: X14 :: A :: H) w) : Holds b (X1 :: X2 :: X3 :: X4 :: X5 :: X6 :: X7 :: X8 :: X9 :: X10 :: X11 :: X12 :: X13 :: X14 :: H) w := hw.front14.tail
end more
theorem at_loop5 {P : Program} {f : FuncId} {R : Ending → World → Prop} {N : Nat} {k : List Item} {b : World} {c : Code} {α β γ δ ε : Type} (I : α → β → γ → δ → ε → Prop) (Lf : α → β → γ → δ → ε → List (Nat × Value)) (Hf : α → β → γ → δ → ε → List Asr) (μ : α → β → γ → δ → ε → Nat) (x0 : α) (y0 : β) (z0 : γ) (u0 : δ) (v0 : ε) (h0 : I x0 y0 z0 u0 v0)
    (body : ∀ x y z u v, I x y z u v → (∀ x' y' z' u' v', I x' y' z' u' v' → μ x' y' z' u' v' < μ x y z u v → At P f R N (.inLoop c :: k) (Lf x' y' z' u' v') b (Hf x' y' z' u' v')) → At P f R N (.code c :: .inLoop c :: k) (Lf x y z u v) b (Hf x y z u v)) :
    At P f R N (.code (.loop c) :: k) (Lf x0 y0 z0 u0 v0) b (Hf x0 y0 z0 u0 v0) :=
  at_loop0 (fun s : α × β × γ × δ × ε => I s.1 s.2.1 s.2.2.1 s.2.2.2.1 s.2.2.2.2) (fun s => Lf s.1 s.2.1 s.2.2.1 s.2.2.2.1 s.2.2.2.2) (fun s => Hf s.1 s.2.1 s.2.2.1 s.2.2.2.1 s.2.2.2.2) (fun s => μ s.1 s.2.1 s.2.2.1 s.2.2.2.1 s.2.2.2.2)
    (fun s hs ih => body s.1 s.2.1 s.2.2.1 s.2.2.2.1 s.2.2.2.2 hs (fun x y z u v h1 h2 => ih (x, y, z, u, v) h1 h2)) (x0, y0, z0, u0, v0) h0
theorem at_loop6 {P : Program} {f : FuncId} {R : Ending → World → Prop} {N : Nat} {k : List Item} {b : World} {c : Code} {α β γ δ ε ζ : Type} (I : α → β → γ → δ → ε → ζ → Prop) (Lf : α → β → γ → δ → ε → ζ → List (Nat × Value)) (Hf : α → β → γ → δ → ε → ζ → List Asr) (μ : α → β → γ → δ → ε → ζ → Nat) (x0 : α) (y0 : β) (z0 : γ) (u0 : δ) (v0 : ε) (t0 : ζ) (h0 : I x0 y0 z0 u0 v0 t0)
    (body : ∀ x y z u v t, I x y z u v t → (∀ x' y' z' u' v' t', I x' y' z' u' v' t' → μ x' y' z' u' v' t' < μ x y z u v t → At P f R N (.inLoop c :: k) (Lf x' y' z' u' v' t') b (Hf x' y' z' u' v' t')) → At P f R N (.code c :: .inLoop c :: k) (Lf x y z u v t) b (Hf x y z u v t)) :
    At P f R N (.code (.loop c) :: k) (Lf x0 y0 z0 u0 v0 t0) b (Hf x0 y0 z0 u0 v0 t0) :=
  at_loop0 (fun s : α × β × γ × δ × ε × ζ => I s.1 s.2.1 s.2.2.1 s.2.2.2.1 s.2.2.2.2.1 s.2.2.2.2.2) (fun s => Lf s.1 s.2.1 s.2.2.1 s.2.2.2.1 s.2.2.2.2.1 s.2.2.2.2.2) (fun s => Hf s.1 s.2.1 s.2.2.1 s.2.2.2.1 s.2.2.2.2.1 s.2.2.2.2.2) (fun s => μ s.1 s.2.1 s.2.2.1 s.2.2.2.1 s.2.2.2.2.1 s.2.2.2.2.2)
    (fun s hs ih => body s.1 s.2.1 s.2.2.1 s.2.2.2.1 s.2.2.2.2.1 s.2.2.2.2.2 hs (fun x y z u v t h1 h2 => ih (x, y, z, u, v, t) h1 h2)) (x0, y0, z0, u0, v0, t0) h0
theorem wt_open {P : Program} {l : List Oper} {Q : Exit → Act → World → Prop} {N : Nat} {L : List (Nat × Value)} {b : World} {Hk : List Asr} {t : Tr} {ι : Type} {H0 : List Asr} {Hi : ι → List Asr} (hh : ∀ w, Holds b H0 w → ∃ i, Holds b (Hi i) w) (h : ∀ i, WT P l Q N t L b (Hi i) Hk) : WT P l Q N t L b H0 Hk :=
  fun a w hf hw => by obtain ⟨i, hi⟩ := hh w hw; exact h i a w hf hi
end Go.Proofs.Yteecjaiklpkhaaa

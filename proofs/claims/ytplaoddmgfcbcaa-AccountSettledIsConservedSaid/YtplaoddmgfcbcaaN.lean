/- Keys, entries under '==', and the accounts in memory. -/
import Derived.Test.YtplaoddmgfcbcaaM
import Derived.Test.YtplaoddmgfcbcaaRows
namespace Go.Proofs.Ytplaoddmgfcbcaa
open Go

def fl3 (f : Field) : Bool × TypeId × Nat := (f.name == "_", f.type, f.offset)
theorem eq_three {P : Program} {xs ys : Array Value} {fs : List Field} {w : World} {d : Nat} {a b c a' b' c' : Int} (ht : P.underlying 3 = some (.int .i64)) (hfs : fs.map fl3 = [(false, 3, 0), (false, 3, 1), (false, 3, 2)])
    (h0 : xs[0]? = some (.int .i64 a)) (h1 : xs[1]? = some (.int .i64 b)) (h2 : xs[2]? = some (.int .i64 c)) (g0 : ys[0]? = some (.int .i64 a')) (g1 : ys[1]? = some (.int .i64 b')) (g2 : ys[2]? = some (.int .i64 c')) :
    (Op.eqFields (d + 1) xs ys fs).run P w = .ok (decide (a = a' ∧ b = b' ∧ c = c')) w := by
  have hlen : fs.length = 3 := by simpa using congrArg List.length hfs
  match fs, hlen with
  | [f0, f1, f2], _ =>
    simp only [List.map_cons, List.map_nil, List.cons.injEq, fl3, Prod.mk.injEq, and_true] at hfs
    obtain ⟨⟨n0, t0, o0⟩, ⟨n1, t1, o1⟩, ⟨n2, t2, o2⟩⟩ := hfs
    rw [eqf_int n0 (by rw [t0]; exact ht) (by rw [o0]; exact h0) (by rw [o0]; exact g0), eqf_int n1 (by rw [t1]; exact ht) (by rw [o1]; exact h1) (by rw [o1]; exact g1), eqf_int n2 (by rw [t2]; exact ht) (by rw [o2]; exact h2) (by rw [o2]; exact g2), eqf_nil]
    by_cases e1 : a = a' <;> by_cases e2 : b = b' <;> by_cases e3 : c = c' <;> simp [e1, e2, e3]
theorem eq_five {P : Program} {xs ys : Array Value} {fs : List Field} {w : World} {d : Nat} {a b c p q a' b' c' p' q' : Int} (ht : P.underlying 3 = some (.int .i64)) (hfs : fs.map fl3 = [(false, 3, 0), (false, 3, 1), (false, 3, 2), (false, 3, 3), (false, 3, 4)])
    (h0 : xs[0]? = some (.int .i64 a)) (h1 : xs[1]? = some (.int .i64 b)) (h2 : xs[2]? = some (.int .i64 c)) (h3 : xs[3]? = some (.int .i64 p)) (h4 : xs[4]? = some (.int .i64 q))
    (g0 : ys[0]? = some (.int .i64 a')) (g1 : ys[1]? = some (.int .i64 b')) (g2 : ys[2]? = some (.int .i64 c')) (g3 : ys[3]? = some (.int .i64 p')) (g4 : ys[4]? = some (.int .i64 q')) :
    (Op.eqFields (d + 1) xs ys fs).run P w = .ok (decide (a = a' ∧ b = b' ∧ c = c' ∧ p = p' ∧ q = q')) w := by
  have hlen : fs.length = 5 := by simpa using congrArg List.length hfs
  match fs, hlen with
  | [f0, f1, f2, f3, f4], _ =>
    simp only [List.map_cons, List.map_nil, List.cons.injEq, fl3, Prod.mk.injEq, and_true] at hfs
    obtain ⟨⟨n0, t0, o0⟩, ⟨n1, t1, o1⟩, ⟨n2, t2, o2⟩, ⟨n3, t3, o3⟩, ⟨n4, t4, o4⟩⟩ := hfs
    rw [eqf_int n0 (by rw [t0]; exact ht) (by rw [o0]; exact h0) (by rw [o0]; exact g0), eqf_int n1 (by rw [t1]; exact ht) (by rw [o1]; exact h1) (by rw [o1]; exact g1), eqf_int n2 (by rw [t2]; exact ht) (by rw [o2]; exact h2) (by rw [o2]; exact g2),
      eqf_int n3 (by rw [t3]; exact ht) (by rw [o3]; exact h3) (by rw [o3]; exact g3), eqf_int n4 (by rw [t4]; exact ht) (by rw [o4]; exact h4) (by rw [o4]; exact g4), eqf_nil]
    by_cases e1 : a = a' <;> by_cases e2 : b = b' <;> by_cases e3 : c = c' <;> by_cases e4 : p = p' <;> by_cases e5 : q = q' <;> simp [e1, e2, e3, e4, e5]

theorem keyOk : KeyOk Try.prog 60 kv where
  wide := by kernel_rfl
  eq x y w := by
    unfold Op.equal kv
    show (Op.equalIn (9999 + 1) 60 _ _).run Try.prog w = _
    rw [run_equalIn_agg w 9999 60 _ _ (by kernel_rfl) (by kernel_rfl), eq_three (a := x.1) (b := x.2.1) (c := x.2.2) (a' := y.1) (b' := y.2.1) (c' := y.2.2) Try.underlying3 (by kernel_rfl) rfl rfl rfl rfl rfl rfl]
    obtain ⟨a, b, c⟩ := x
    obtain ⟨a', b', c'⟩ := y
    simp
  ck e x w := by
    obtain ⟨a, b, c⟩ := x
    kernel_rfl
  same x := by
    obtain ⟨a, b, c⟩ := x
    simp [kv, Instr.sameBits]
theorem zero3 (w : World) : (zeroValue 3).run Try.prog w = .ok (.int .i64 0) w := by kernel_rfl

theorem eq33 (x y : Entry) (w : World) : (Op.equalIn 10000 33 (.agg (Enc.cells x).toArray) (.agg (Enc.cells y).toArray)).run Try.prog w = .ok (decide (x = y)) w := by
  show (Op.equalIn (9999 + 1) 33 _ _).run Try.prog w = _
  rw [run_equalIn_agg w 9999 33 _ _ (by kernel_rfl) (by kernel_rfl), eq_five (a := x.month) (b := x.kind) (c := x.with_) (p := x.number) (q := x.amount) (a' := y.month) (b' := y.kind) (c' := y.with_) (p' := y.number) (q' := y.amount) Try.underlying3 (by kernel_rfl) rfl rfl rfl rfl rfl rfl rfl rfl rfl rfl]
  obtain ⟨a, b, c, d, e⟩ := x
  obtain ⟨a', b', c', d', e'⟩ := y
  simp
theorem eqT33 (x y : Entry) (h : x = y) (w : World) : (Op.equalIn 10000 33 (.agg (Enc.cells x).toArray) (.agg (Enc.cells y).toArray)).run Try.prog w = .ok true w := by rw [eq33]; simp [h]
theorem eqF33 (x y : Entry) (h : ¬ x = y) (w : World) : (Op.equalIn 10000 33 (.agg (Enc.cells x).toArray) (.agg (Enc.cells y).toArray)).run Try.prog w = .ok false w := by rw [eq33]; simp [h]

/-! ### The accounts -/

def accB (g : Nat) (A : Option Addr) (c m : Nat) (es : List Entry) (s : Int) : Asr := Bk g 54 [.slice A es.length c, .map (some m), .int .i64 s]
/-- An account of the program. -/
def Acc (g : Nat) (es : List Entry) : Asr := Asr.exi fun (x : Option Addr × Nat × Nat) => (accB g x.1 x.2.1 x.2.2 es (stl es)).star ((Sl x.1 x.2.1 33 es).star (Mp kv x.2.2 (cnt es)))
/-- An account of the reference. -/
def RAcc (r : Nat) (es : List Entry) : Asr := Asr.exi fun (x : Option Addr × Nat) => (Bk r 45 [.slice x.1 es.length x.2]).star (Sl x.1 x.2 33 es)

section
variable {b w : World} {H : List Asr} {g : Nat} {es : List Entry}
theorem Acc.opens (hw : Holds b (Acc g es :: H) w) : ∃ x : Option Addr × Nat × Nat, Holds b (accB g x.1 x.2.1 x.2.2 es (stl es) :: Sl x.1 x.2.1 33 es :: Mp kv x.2.2 (cnt es) :: H) w := by
  obtain ⟨x, h⟩ := hw.unexi
  exact ⟨x, h.unstar.front1.unstar.front2⟩
theorem Acc.closes {A : Option Addr} {c m : Nat} {s : Int} {f : Key → Int} (hw : Holds b (accB g A c m es s :: Sl A c 33 es :: Mp kv m f :: H) w) (hs : s = stl es) (hf : f = cnt es) : Holds b (Acc g es :: H) w := by
  subst hs; subst hf
  exact Holds.mkexi (A, c, m) hw.down2.mkstar.front1.mkstar
theorem RAcc.opens (hw : Holds b (RAcc g es :: H) w) : ∃ x : Option Addr × Nat, Holds b (Bk g 45 [.slice x.1 es.length x.2] :: Sl x.1 x.2 33 es :: H) w := by
  obtain ⟨x, h⟩ := hw.unexi
  exact ⟨x, h.unstar⟩
theorem RAcc.closes {A : Option Addr} {c : Nat} (hw : Holds b (Bk g 45 [.slice A es.length c] :: Sl A c 33 es :: H) w) : Holds b (RAcc g es :: H) w :=
  Holds.mkexi (A, c) hw.mkstar

theorem Acc.fn {f : FuncId} {args : List Value} {R : Value → List Asr → Prop} (h : ∀ A c m, Fn Try.prog f args b (accB g A c m es (stl es) :: Sl A c 33 es :: Mp kv m (cnt es) :: H) R) : Fn Try.prog f args b (Acc g es :: H) R :=
  Fn.open_ (none, 0, 0) (fun _ hw => Acc.opens hw) (fun x => h x.1 x.2.1 x.2.2)
theorem RAcc.fn {f : FuncId} {args : List Value} {R : Value → List Asr → Prop} (h : ∀ A c, Fn Try.prog f args b (Bk g 45 [.slice A es.length c] :: Sl A c 33 es :: H) R) : Fn Try.prog f args b (RAcc g es :: H) R :=
  Fn.open_ (none, 0) (fun _ hw => RAcc.opens hw) (fun x => h x.1 x.2)
end
end Go.Proofs.Ytplaoddmgfcbcaa

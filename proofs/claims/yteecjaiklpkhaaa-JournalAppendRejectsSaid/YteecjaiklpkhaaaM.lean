/- The journals in memory. -/
import Derived.Test.YteecjaiklpkhaaaT
import Derived.Test.YteecjaiklpkhaaaK9
import Derived.Test.YteecjaiklpkhaaaK10
import Derived.Test.YteecjaiklpkhaaaRows
namespace Go.Proofs.Yteecjaiklpkhaaa
open Go

instance : Enc Sp where
  size := 2
  cells m := [.int .i64 m.a, .int .i64 m.z]
  len _ := rfl
  one x u h := by simp at h; rcases h with rfl | rfl <;> rfl
instance : Inhabited (Mem UInt8) := ⟨⟨none, 0, []⟩⟩
instance : Enc (Mem UInt8) where
  size := 1
  cells m := [.slice m.A m.xs.length m.c]
  len _ := rfl
  one x u h := by simp at h; subst h; rfl
instance : Enc Bool where
  size := 1
  cells x := [.bool x]
  len _ := rfl
  one x u h := by simp at h; subst h; rfl

abbrev OA := Option Addr
def jnB (g : Nat) (A : OA) (B : List UInt8) (c : Nat) (fl : Int) (A2 : OA) (sp : List Sp) (c2 : Nat) : Asr := Bk g 55 [.slice A B.length c, .int .i64 fl, .slice A2 sp.length c2]
/-- A journal of the program. -/
def Jn (g : Nat) (rs : List (List UInt8)) (fl : Nat) : Asr :=
  Asr.exi fun (x : (OA × Nat) × (OA × Nat)) => (jnB g x.1.1 (jenc rs) x.1.2 fl x.2.1 (spans 0 rs) x.2.2).star ((Sl x.1.1 x.1.2 5 (jenc rs)).star (Sl x.2.1 x.2.2 58 (spans 0 rs)))
def rjB (g : Nat) (A : OA) (B : List UInt8) (c : Nat) (A2 : OA) (ws : List (Mem UInt8)) (c2 : Nat) (fl : Int) : Asr := Bk g 50 [.slice A B.length c, .slice A2 ws.length c2, .int .i64 fl]
def recs (ws : List (Mem UInt8)) : List (List UInt8) := ws.map Mem.xs
/-- A journal of the reference. -/
def Rj (g : Nat) (ws : List (Mem UInt8)) (fl : Nat) : Asr :=
  Asr.exi fun (x : (OA × Nat) × (OA × Nat)) => (rjB g x.1.1 (jenc (recs ws)) x.1.2 x.2.1 ws x.2.2 fl).star ((Sl x.1.1 x.1.2 5 (jenc (recs ws))).star (Sl x.2.1 x.2.2 30 ws))
/-- Slices, each in memory of its own. -/
def Pcs : List (Mem UInt8) → Asr
  | [] => ⟨fun D _ => D = [], fun _ _ _ h _ => h, fun D h e g hg => by subst e; simp at hg⟩
  | m :: ms => (Sl m.A m.c 5 m.xs).star (Pcs ms)

section
variable {b w : World} {H : List Asr} {g fl : Nat} {rs : List (List UInt8)} {ws : List (Mem UInt8)} {A A2 : OA} {c c2 : Nat}
theorem Jn.opens (hw : Holds b (Jn g rs fl :: H) w) : ∃ x : (OA × Nat) × (OA × Nat), Holds b (jnB g x.1.1 (jenc rs) x.1.2 fl x.2.1 (spans 0 rs) x.2.2 :: Sl x.1.1 x.1.2 5 (jenc rs) :: Sl x.2.1 x.2.2 58 (spans 0 rs) :: H) w := by
  obtain ⟨x, h⟩ := hw.unexi
  exact ⟨x, h.unstar.front1.unstar.front2⟩
theorem Jn.closes (hw : Holds b (jnB g A (jenc rs) c fl A2 (spans 0 rs) c2 :: Sl A c 5 (jenc rs) :: Sl A2 c2 58 (spans 0 rs) :: H) w) : Holds b (Jn g rs fl :: H) w :=
  Holds.mkexi ((A, c), (A2, c2)) hw.down2.mkstar.front1.mkstar
theorem Jn.fn {f : FuncId} {args : List Value} {R : Value → List Asr → Prop} (h : ∀ A c A2 c2, Fn Try.prog f args b (jnB g A (jenc rs) c fl A2 (spans 0 rs) c2 :: Sl A c 5 (jenc rs) :: Sl A2 c2 58 (spans 0 rs) :: H) R) : Fn Try.prog f args b (Jn g rs fl :: H) R :=
  Fn.open_ ((none, 0), (none, 0)) (fun _ hw => Jn.opens hw) (fun x => h x.1.1 x.1.2 x.2.1 x.2.2)
theorem Rj.opens (hw : Holds b (Rj g ws fl :: H) w) : ∃ x : (OA × Nat) × (OA × Nat), Holds b (rjB g x.1.1 (jenc (recs ws)) x.1.2 x.2.1 ws x.2.2 fl :: Sl x.1.1 x.1.2 5 (jenc (recs ws)) :: Sl x.2.1 x.2.2 30 ws :: H) w := by
  obtain ⟨x, h⟩ := hw.unexi
  exact ⟨x, h.unstar.front1.unstar.front2⟩
theorem Rj.closes (hw : Holds b (rjB g A (jenc (recs ws)) c A2 ws c2 fl :: Sl A c 5 (jenc (recs ws)) :: Sl A2 c2 30 ws :: H) w) : Holds b (Rj g ws fl :: H) w :=
  Holds.mkexi ((A, c), (A2, c2)) hw.down2.mkstar.front1.mkstar
theorem Rj.fn {f : FuncId} {args : List Value} {R : Value → List Asr → Prop} (h : ∀ A c A2 c2, Fn Try.prog f args b (rjB g A (jenc (recs ws)) c A2 ws c2 fl :: Sl A c 5 (jenc (recs ws)) :: Sl A2 c2 30 ws :: H) R) : Fn Try.prog f args b (Rj g ws fl :: H) R :=
  Fn.open_ ((none, 0), (none, 0)) (fun _ hw => Rj.opens hw) (fun x => h x.1.1 x.1.2 x.2.1 x.2.2)

theorem Holds.pcsNil (hw : Holds b H w) : Holds b (Pcs [] :: H) w := hw.push _ [] rfl rfl rfl rfl (fun _ _ => rfl) (by simp) (by simp)
theorem Holds.pcsIn {m : Mem UInt8} (hw : Holds b (Sl m.A m.c 5 m.xs :: Pcs ws :: H) w) : Holds b (Pcs (m :: ws) :: H) w := hw.mkstar
theorem Holds.pcsOut {m : Mem UInt8} (hw : Holds b (Pcs (m :: ws) :: H) w) : Holds b (Sl m.A m.c 5 m.xs :: Pcs ws :: H) w := hw.unstar
/-- A further slice behind the others. -/
theorem Holds.pcsSnoc {m : Mem UInt8} : ∀ {ws : List (Mem UInt8)} {H : List Asr}, Holds b (Sl m.A m.c 5 m.xs :: Pcs ws :: H) w → Holds b (Pcs (ws ++ [m]) :: H) w
  | [], _, hw => hw.pcsIn
  | x :: ws, _, hw => (Holds.pcsSnoc (ws := ws) hw.front1.pcsOut.down2.front1).front1.pcsIn
/-- The same as memory that is only read. -/
theorem Holds.pcsPool : ∀ {ws : List (Mem UInt8)} {H : List Asr}, Holds b (Pcs ws :: H) w → Holds b (Pool ws :: H) w
  | [], _, hw => hw.tail.poolNil
  | m :: ws, _, hw => (Holds.pcsPool (ws := ws) hw.pcsOut.front1).front1.poolIn
end

/-- Two journals side by side. -/
structure Sc where
  rs : List (List UInt8)
  fl : Nat
  ws : List (Mem UInt8)
  pl : List (Mem UInt8)
structure JOk (s : Sc) (n : Nat) : Prop where
  eq : recs s.ws = s.rs
  ok : ∀ r, r ∈ s.rs → okR r
  inp : ∀ m, m ∈ s.ws → m ∈ s.pl
  len : s.rs.length ≤ n
  fl : ∃ m, m ≤ s.rs.length ∧ s.fl = (jenc (s.rs.take m)).length
theorem JOk.lenw {s : Sc} {n : Nat} (h : JOk s n) : s.ws.length = s.rs.length := by have := congrArg List.length h.eq; simpa [recs] using this
theorem JOk.bytes {s : Sc} {n : Nat} (h : JOk s n) : (jenc s.rs).length ≤ 406 * n := Nat.le_trans (jenc_le h.ok) (Nat.mul_le_mul_left _ h.len)
theorem JOk.flle {s : Sc} {n : Nat} (h : JOk s n) : s.fl ≤ (jenc s.rs).length := by obtain ⟨m, _, e⟩ := h.fl; rw [e]; exact jenc_take_le _ _
/-- What a crash leaves: so many bytes. -/
def cutN (rs : List (List UInt8)) (fl : Nat) (keep : Int) : Nat := fl + (max 0 (min keep ((jenc rs).length - (fl : Int)))).toNat
theorem cutN_le (rs : List (List UInt8)) (fl : Nat) (keep : Int) (h : fl ≤ (jenc rs).length) : fl ≤ cutN rs fl keep ∧ cutN rs fl keep ≤ (jenc rs).length := by unfold cutN; omega
theorem cutN_eq (rs : List (List UInt8)) (fl : Nat) (keep : Int) : (fl : Int) + max 0 (min keep ((jenc rs).length - (fl : Int))) = (cutN rs fl keep : Nat) := by unfold cutN; omega
end Go.Proofs.Yteecjaiklpkhaaa

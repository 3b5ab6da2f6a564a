/- The plain data of chapter 33, and the channels in memory. -/
import Derived.Test.YtcpcgllkdpfacaaK7
import Derived.Test.YtcpcgllkdpfacaaK8
import Derived.Test.YtcpcgllkdpfacaaRows
namespace Go.Proofs.Ytcpcgllkdpfacaa
open Go

/-- A message, and where its bytes lie. -/
structure Msg where
  from_ : Int
  to_ : Int
  A : Option Addr
  c : Nat
  bs : List UInt8
deriving Inhabited
instance : Enc Msg where
  size := 3
  cells m := [.int .i64 m.from_, .int .i64 m.to_, .slice m.A m.bs.length m.c]
  len _ := rfl
  one x u h := by simp at h; rcases h with rfl | rfl | rfl <;> rfl
/-- What a message says. -/
def Msg.abs (m : Msg) : Int × Int × List UInt8 := (m.from_, m.to_, m.bs)
/-- The same message, its bytes elsewhere. -/
def Msg.cp (m : Msg) (A : Option Addr) (c : Nat) : Msg := ⟨m.from_, m.to_, A, c, m.bs⟩
theorem Msg.abs_cp (m : Msg) (A : Option Addr) (c : Nat) : (m.cp A c).abs = m.abs := rfl
def Msg.mem (m : Msg) : Mem UInt8 := ⟨m.A, m.c, m.bs⟩

/-- Numbers of which a call is made. -/
structure Raw where
  what : Int
  from_ : Int
  to_ : Int
  i : Int
  A : Option Addr
  c : Nat
  bs : List UInt8
deriving Inhabited
instance : Enc Raw where
  size := 5
  cells m := [.int .i64 m.what, .int .i64 m.from_, .int .i64 m.to_, .int .i64 m.i, .slice m.A m.bs.length m.c]
  len _ := rfl
  one x u h := by simp at h; rcases h with rfl | rfl | rfl | rfl | rfl <;> rfl
/-- Bytes, and where they lie. -/
instance : Inhabited (Mem UInt8) := ⟨⟨none, 0, []⟩⟩
instance : Enc (Mem UInt8) where
  size := 1
  cells m := [.slice m.A m.xs.length m.c]
  len _ := rfl
  one x u h := by simp at h; subst h; rfl

structure Cts where
  sent : Int
  del : Int
  lost : Int
  rep : Int

def chB (t : TypeId) (g : Nat) (A : Option Addr) (c : Nat) (ms : List Msg) (k : Cts) : Asr := Bk g t [.slice A ms.length c, .int .i64 k.sent, .int .i64 k.del, .int .i64 k.lost, .int .i64 k.rep]
/-- A channel: of the program (58) or of the reference (42). -/
def Chn (t : TypeId) (g : Nat) (ms : List Msg) (k : Cts) : Asr := Asr.exi fun (x : Option Addr × Nat) => (chB t g x.1 x.2 ms k).star (Sl x.1 x.2 33 ms)

section
variable {b w : World} {H : List Asr} {t : TypeId} {g : Nat} {ms : List Msg} {k : Cts}
theorem Chn.opens (hw : Holds b (Chn t g ms k :: H) w) : ∃ x : Option Addr × Nat, Holds b (chB t g x.1 x.2 ms k :: Sl x.1 x.2 33 ms :: H) w := by
  obtain ⟨x, h⟩ := hw.unexi
  exact ⟨x, h.unstar⟩
theorem Chn.closes {A : Option Addr} {c : Nat} (hw : Holds b (chB t g A c ms k :: Sl A c 33 ms :: H) w) : Holds b (Chn t g ms k :: H) w := Holds.mkexi (A, c) hw.mkstar
theorem Chn.fn {f : FuncId} {args : List Value} {R : Value → List Asr → Prop} (h : ∀ A c, Fn Try.prog f args b (chB t g A c ms k :: Sl A c 33 ms :: H) R) : Fn Try.prog f args b (Chn t g ms k :: H) R :=
  Fn.open_ (none, 0) (fun _ hw => Chn.opens hw) (fun x => h x.1 x.2)
end

/-- Messages that can be read, of lengths that are small. -/
structure Ok (H : List Asr) (ms : List Msg) : Prop where
  len : ms.length ≤ 500
  rd : ∀ m, m ∈ ms → Rd H m.A m.bs
  sz : ∀ m, m ∈ ms → m.bs.length ≤ 1000
theorem Ok.cons {H : List Asr} {ms : List Msg} (h : Ok H ms) (B : Asr) : Ok (B :: H) ms := ⟨h.len, fun m hm => (h.rd m hm).cons B, h.sz⟩
theorem Ok.pre {H H2 : List Asr} {ms : List Msg} (h : Ok H ms) (hh : ∀ b w, Holds b H2 w → Holds b H w) : Ok H2 ms := ⟨h.len, fun m hm => (h.rd m hm).pre hh, h.sz⟩

def okS (f t : Int) (bs : List UInt8) : Prop := (0 ≤ f ∧ f < 6) ∧ (0 ≤ t ∧ t < 6) ∧ f ≠ t ∧ 1 ≤ bs.length ∧ bs.length ≤ 1000
instance (f t : Int) (bs : List UInt8) : Decidable (okS f t bs) := by unfold okS; infer_instance
def Msg.zero : Msg := ⟨0, 0, none, 0, []⟩

/-! ### Two channels side by side -/
structure Sc where
  p : List Msg
  q : List Msg
  k : Cts
  pl : List (Mem UInt8)

structure SOk (s : Sc) (n : Nat) : Prop where
  same : s.p.map Msg.abs = s.q.map Msg.abs
  inp : ∀ m, m ∈ s.p → m.mem ∈ s.pl
  inq : ∀ m, m ∈ s.q → m.mem ∈ s.pl
  szp : ∀ m, m ∈ s.p → m.bs.length ≤ 1000
  szq : ∀ m, m ∈ s.q → m.bs.length ≤ 1000
  len : s.p.length ≤ n
  ks : 0 ≤ s.k.sent ∧ s.k.sent ≤ n
  kd : 0 ≤ s.k.del ∧ s.k.del ≤ n
  kl : 0 ≤ s.k.lost ∧ s.k.lost ≤ n
  kr : 0 ≤ s.k.rep ∧ s.k.rep ≤ n
  cons : s.k.sent + s.k.rep = s.k.del + s.k.lost + s.p.length
theorem SOk.lenq {s : Sc} {n : Nat} (h : SOk s n) : s.q.length = s.p.length := by have := congrArg List.length h.same; simpa using this.symm
theorem SOk.at_ {s : Sc} {n : Nat} (h : SOk s n) (j : Nat) (hj : j < s.p.length) : (at_ s.p j).abs = (at_ s.q j).abs := by
  have h1 : (s.p.map Msg.abs)[j]? = (s.q.map Msg.abs)[j]? := by rw [h.same]
  rw [List.getElem?_map, List.getElem?_map, at_some hj, at_some (show j < s.q.length by rw [h.lenq]; exact hj)] at h1
  simpa using h1
end Go.Proofs.Ytcpcgllkdpfacaa

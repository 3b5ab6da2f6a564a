/- The checksum in plain numbers: a table's step is eight steps bit by bit; a changed byte changes the checksum. -/
namespace Go.Proofs.Yteecjaiklpkhaaa

/-- One bit. -/
def stp (v : Nat) : Nat := if v % 2 = 1 then v / 2 ^^^ 3988292384 else v / 2
def stpn : Nat → Nat → Nat
  | 0, v => v
  | n + 1, v => stp (stpn n v)
/-- One byte. -/
def crs (v c : Nat) : Nat := stpn 8 (v ^^^ c)
/-- The state behind bytes. -/
def cst (l : List UInt8) : Nat := l.foldl (fun v c => crs v c.toNat) 4294967295
/-- The checksum. -/
def crc (l : List UInt8) : Nat := 4294967295 ^^^ cst l

theorem xorlt {a b : Nat} (ha : a < 4294967296) (hb : b < 4294967296) : a ^^^ b < 4294967296 := Nat.xor_lt_two_pow (n := 32) (by omega) (by omega)
theorem stp_lt {v : Nat} (h : v < 4294967296) : stp v < 4294967296 := by
  unfold stp
  split
  · exact xorlt (by omega) (by decide)
  · omega
theorem stpn_lt {v : Nat} (h : v < 4294967296) : ∀ n, stpn n v < 4294967296
  | 0 => h
  | n + 1 => stp_lt (stpn_lt h n)
theorem crs_lt {v c : Nat} (h : v < 4294967296) (hc : c < 256) : crs v c < 4294967296 := stpn_lt (xorlt h (by omega)) 8
theorem fold_lt : ∀ (l : List UInt8) (v : Nat), v < 4294967296 → l.foldl (fun v c => crs v c.toNat) v < 4294967296
  | [], _, h => h
  | c :: l, v, h => fold_lt l _ (crs_lt h c.toNat_lt)
theorem cst_lt (l : List UInt8) : cst l < 4294967296 := fold_lt l _ (by decide)
theorem crc_lt (l : List UInt8) : crc l < 4294967296 := xorlt (by decide) (cst_lt l)
theorem cst_snoc (l : List UInt8) (c : UInt8) : cst (l ++ [c]) = crs (cst l) c.toNat := by simp [cst]

/-! ### The table -/
theorem xor_swap (a b c : Nat) : (a ^^^ c) ^^^ (b ^^^ c) = a ^^^ b := by
  rw [Nat.xor_comm b c, Nat.xor_assoc, ← Nat.xor_assoc c c b, Nat.xor_self, Nat.zero_xor]
theorem stp_xor (a b : Nat) : stp (a ^^^ b) = stp a ^^^ stp b := by
  have hp := @Nat.xor_mod_two_eq_one a b
  have ha : a % 2 = 0 ∨ a % 2 = 1 := by omega
  have hb : b % 2 = 0 ∨ b % 2 = 1 := by omega
  unfold stp
  rw [Nat.xor_div_two]
  rcases ha with ha | ha <;> rcases hb with hb | hb
  · rw [if_neg (by rw [hp]; omega), if_neg (by omega), if_neg (by omega)]
  · rw [if_pos (by rw [hp]; omega), if_neg (by omega), if_pos hb, Nat.xor_assoc]
  · rw [if_pos (by rw [hp]; omega), if_pos ha, if_neg (by omega), Nat.xor_assoc, Nat.xor_comm (b / 2), Nat.xor_assoc]
  · rw [if_neg (by rw [hp]; omega), if_pos ha, if_pos hb, xor_swap]
theorem stpn_xor (a b : Nat) : ∀ n, stpn n (a ^^^ b) = stpn n a ^^^ stpn n b
  | 0 => rfl
  | n + 1 => by simp only [stpn, stpn_xor a b n, stp_xor]
theorem stp_even (a : Nat) : stp (2 * a) = a := by unfold stp; rw [if_neg (by omega)]; omega
theorem stp8 (a : Nat) : stpn 8 (256 * a) = a := by
  have h : ∀ x y, x = 2 * y → stp x = y := fun x y e => by subst e; exact stp_even y
  simp only [stpn]
  rw [h (256 * a) (128 * a) (by omega), h (128 * a) (64 * a) (by omega), h (64 * a) (32 * a) (by omega), h (32 * a) (16 * a) (by omega), h (16 * a) (8 * a) (by omega), h (8 * a) (4 * a) (by omega), h (4 * a) (2 * a) (by omega), stp_even]
theorem lowhigh (v : Nat) : v = 256 * (v / 256) ^^^ v % 256 := by
  apply Nat.eq_of_testBit_eq
  intro i
  rw [Nat.testBit_xor, show (256 : Nat) = 2 ^ 8 from rfl, Nat.testBit_two_pow_mul, Nat.testBit_mod_two_pow, Nat.testBit_div_two_pow]
  by_cases h : i < 8
  · simp [h, show ¬ 8 ≤ i by omega]
  · simp [h, show 8 ≤ i by omega, Nat.sub_add_cancel (show 8 ≤ i by omega)]
/-- The table's step. -/
theorem crs_table (v c : Nat) : crs v c = v / 256 ^^^ stpn 8 (v % 256 ^^^ c) := by
  unfold crs
  have h : v ^^^ c = 256 * (v / 256) ^^^ (v % 256 ^^^ c) := by rw [← Nat.xor_assoc, ← lowhigh]
  rw [h, stpn_xor, stp8]

/-! ### Changes show -/
theorem xor_inj {a b c : Nat} (h : a ^^^ c = b ^^^ c) : a = b := by
  have h2 : (a ^^^ c) ^^^ (0 ^^^ c) = (b ^^^ c) ^^^ (0 ^^^ c) := by rw [h]
  rwa [xor_swap, xor_swap, Nat.xor_zero, Nat.xor_zero] at h2
theorem xor_injL {a b c : Nat} (h : c ^^^ a = c ^^^ b) : a = b := by
  rw [Nat.xor_comm c a, Nat.xor_comm c b] at h; exact xor_inj h
theorem top_poly (m : Nat) (h : m < 2147483648) : 2147483648 ≤ m ^^^ 3988292384 := by
  have h1 : (m ^^^ 3988292384).testBit 31 = true := by
    rw [Nat.testBit_xor, Nat.testBit_lt_two_pow (show m < 2 ^ 31 by omega)]
    decide
  exact Nat.ge_two_pow_of_testBit h1
theorem stp_inj {a b : Nat} (ha : a < 4294967296) (hb : b < 4294967296) (h : stp a = stp b) : a = b := by
  unfold stp at h
  split at h <;> split at h
  · have := xor_inj h; omega
  · have := top_poly (a / 2) (by omega); omega
  · have := top_poly (b / 2) (by omega); omega
  · omega
theorem stpn_inj {a b : Nat} (ha : a < 4294967296) (hb : b < 4294967296) : ∀ n, stpn n a = stpn n b → a = b
  | 0, h => h
  | n + 1, h => stpn_inj ha hb n (stp_inj (stpn_lt ha n) (stpn_lt hb n) h)
theorem crs_inj {v u c : Nat} (hv : v < 4294967296) (hu : u < 4294967296) (hc : c < 256) (h : crs v c = crs u c) : v = u :=
  xor_inj (stpn_inj (xorlt hv (by omega)) (xorlt hu (by omega)) 8 h)
theorem crs_injC {v c d : Nat} (hv : v < 4294967296) (hc : c < 256) (hd : d < 256) (h : crs v c = crs v d) : c = d :=
  xor_injL (stpn_inj (xorlt hv (by omega)) (xorlt hv (by omega)) 8 h)
theorem fold_inj : ∀ (l : List UInt8) (v u : Nat), v < 4294967296 → u < 4294967296 → l.foldl (fun v c => crs v c.toNat) v = l.foldl (fun v c => crs v c.toNat) u → v = u
  | [], _, _, _, _, h => h
  | c :: l, v, u, hv, hu, h => crs_inj hv hu c.toNat_lt (fold_inj l _ _ (crs_lt hv c.toNat_lt) (crs_lt hu c.toNat_lt) h)
/-- A changed byte. -/
theorem crc_change (l m : List UInt8) (c d : UInt8) (h : crc (l ++ c :: m) = crc (l ++ d :: m)) : c = d := by
  have h1 : cst (l ++ c :: m) = cst (l ++ d :: m) := xor_injL h
  unfold cst at h1
  rw [List.foldl_append, List.foldl_append, List.foldl_cons, List.foldl_cons] at h1
  have h2 := fold_inj m _ _ (crs_lt (cst_lt l) c.toNat_lt) (crs_lt (cst_lt l) d.toNat_lt) h1
  exact UInt8.toNat_inj.1 (crs_injC (cst_lt l) c.toNat_lt d.toNat_lt h2)
end Go.Proofs.Yteecjaiklpkhaaa

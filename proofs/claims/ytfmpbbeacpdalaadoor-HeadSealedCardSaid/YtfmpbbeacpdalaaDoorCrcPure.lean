/-
  Plain arithmetic of the CRC-32: no program in sight.
-/
namespace Go.Proofs.YtfmpbbeacpdalaaDoor.Crc


/-- One bit out of a register of any length. -/
def bit1 (r : Nat) : Nat := (r / 2) ^^^ (if r % 2 = 1 then 3988292384 else 0)
def bitN : Nat → Nat → Nat
  | 0, r => r
  | n + 1, r => bitN n (bit1 r)

theorem if_xor (a b : Nat) : (if (a ^^^ b) % 2 = 1 then 3988292384 else 0) = (if a % 2 = 1 then 3988292384 else 0) ^^^ (if b % 2 = 1 then 3988292384 else 0) := by
  have h : (a ^^^ b) % 2 = (a % 2) ^^^ (b % 2) := by
    have := @Nat.xor_mod_two_pow a b 1
    simpa using this
  rw [h]
  rcases Nat.mod_two_eq_zero_or_one a with ha | ha <;> rcases Nat.mod_two_eq_zero_or_one b with hb | hb <;> simp [ha, hb]

theorem bit1_xor (a b : Nat) : bit1 (a ^^^ b) = bit1 a ^^^ bit1 b := by
  unfold bit1
  rw [if_xor]
  have h : (a ^^^ b) / 2 = (a / 2) ^^^ (b / 2) := by
    have := @Nat.xor_div_two_pow a b 1
    simpa using this
  rw [h]
  generalize (if a % 2 = 1 then 3988292384 else 0) = x
  generalize (if b % 2 = 1 then 3988292384 else 0) = y
  rw [Nat.xor_assoc, Nat.xor_assoc]
  congr 1
  rw [← Nat.xor_assoc, Nat.xor_comm (b / 2) x, Nat.xor_assoc]

theorem bitN_xor (n : Nat) : ∀ a b : Nat, bitN n (a ^^^ b) = bitN n a ^^^ bitN n b := by
  induction n with
  | zero => intro a b; rfl
  | succ n ih => intro a b; simp only [bitN]; rw [bit1_xor, ih]

theorem bitN_zero (n : Nat) : bitN n 0 = 0 := by
  induction n with
  | zero => rfl
  | succ n ih => exact ih

theorem bitN_add (m n : Nat) : ∀ r, bitN (m + n) r = bitN n (bitN m r) := by
  induction m with
  | zero => intro r; simp [bitN]
  | succ m ih => intro r; rw [Nat.succ_add]; simp only [bitN]; exact ih _

theorem bit1_even (r : Nat) : bit1 (2 * r) = r := by
  unfold bit1
  rw [if_neg (by omega)]
  simp

theorem bitN_shl (n : Nat) : ∀ r, bitN n (2 ^ n * r) = r := by
  induction n with
  | zero => intro r; simp [bitN]
  | succ n ih =>
    intro r
    simp only [bitN]
    rw [show 2 ^ (n + 1) * r = 2 * (2 ^ n * r) by rw [Nat.pow_succ]; rw [Nat.mul_comm (2 ^ n) 2, Nat.mul_assoc]]
    rw [bit1_even, ih]

theorem bit1_lt {r : Nat} (h : r < 4294967296) : bit1 r < 4294967296 := by
  unfold bit1
  exact Nat.xor_lt_two_pow (n := 32) (by omega) (by split <;> decide)

theorem bitN_lt (n : Nat) : ∀ {r : Nat}, r < 4294967296 → bitN n r < 4294967296 := by
  induction n with
  | zero => intro r h; exact h
  | succ n ih => intro r h; exact ih (bit1_lt h)

theorem bit1_ne {r : Nat} (h : r < 4294967296) (h0 : r ≠ 0) : bit1 r ≠ 0 := by
  unfold bit1
  split
  · intro h1
    have h2 : r / 2 = 3988292384 := by
      have := congrArg (fun x => x ^^^ 3988292384) h1
      simpa [Nat.xor_assoc] using this
    omega
  · simp
    omega

theorem bitN_ne (n : Nat) : ∀ {r : Nat}, r < 4294967296 → r ≠ 0 → bitN n r ≠ 0 := by
  induction n with
  | zero => intro r _ h0; exact h0
  | succ n ih => intro r h h0; exact ih (bit1_lt h) (bit1_ne h h0)

/-- The table. -/
def nib (k : Nat) : Nat := [0, 498536548, 997073096, 651767980, 1994146192, 1802195444, 1303535960, 1342533948, 3988292384, 4027552580, 3604390888, 3412177804, 2607071920, 2262029012, 2685067896, 3183342108].getD k 0
theorem nib_lt (k : Nat) : nib k < 4294967296 := by
  rcases Nat.lt_or_ge k 16 with h | h
  · have : ∀ k, k < 16 → nib k < 4294967296 := by decide
    exact this k h
  · unfold nib
    rw [List.getD_eq_getElem?_getD, List.getElem?_eq_none (by simpa using h)]
    decide
theorem nib_bits : ∀ k, k < 16 → bitN 4 k = nib k := by decide

def step4 (r : Nat) : Nat := (r / 16) ^^^ nib (r % 16)

theorem split16 (r : Nat) : r = (16 * (r / 16)) ^^^ (r % 16) := by
  have h := Nat.two_pow_add_eq_or_of_lt (i := 4) (b := r % 16) (by omega) (r / 16)
  have e : 16 * (r / 16) + r % 16 = r := by omega
  apply Nat.eq_of_testBit_eq
  intro i
  rw [Nat.testBit_xor]
  rw [show (16 : Nat) * (r / 16) = 2 ^ 4 * (r / 16) by rfl, Nat.testBit_two_pow_mul]
  rw [show r % 16 = r % 2 ^ 4 by rfl, Nat.testBit_mod_two_pow]
  rw [show r / 16 = r / 2 ^ 4 by rfl, Nat.testBit_div_two_pow]
  by_cases hi : 4 ≤ i
  · have : ¬ i < 4 := by omega
    simp [hi, this]
  · have h4 : i < 4 := by omega
    simp [hi, h4]

theorem step4_bits (r : Nat) : step4 r = bitN 4 r := by
  unfold step4
  have e : bitN 4 r = bitN 4 ((16 * (r / 16)) ^^^ (r % 16)) := congrArg _ (split16 r)
  rw [e, bitN_xor, nib_bits _ (Nat.mod_lt _ (by decide))]
  have e2 : bitN 4 (16 * (r / 16)) = r / 16 := bitN_shl 4 (r / 16)
  rw [e2]

/-- One byte. -/
def byte1 (r x : Nat) : Nat := bitN 8 (r ^^^ x)
theorem byte1_lt {r x : Nat} (h : r < 4294967296) (hx : x < 256) : byte1 r x < 4294967296 :=
  bitN_lt 8 (Nat.xor_lt_two_pow (n := 32) h (by omega))
theorem byte1_step4 (r x : Nat) : step4 (step4 (r ^^^ x)) = byte1 r x := by
  rw [step4_bits, step4_bits, ← bitN_add]; rfl

def reg (r : Nat) (l : List UInt8) : Nat := l.foldl (fun r x => byte1 r x.toNat) r
theorem reg_lt (l : List UInt8) : ∀ {r : Nat}, r < 4294967296 → reg r l < 4294967296 := by
  induction l with
  | nil => intro r h; exact h
  | cons x l ih => intro r h; exact ih (byte1_lt h x.toNat_lt)
theorem reg_append (r : Nat) (l m : List UInt8) : reg r (l ++ m) = reg (reg r l) m := by simp [reg, List.foldl_append]
theorem reg_snoc (r : Nat) (l : List UInt8) (x : UInt8) : reg r (l ++ [x]) = byte1 (reg r l) x.toNat := by simp [reg]

theorem xor_back (a r : Nat) : a ^^^ (a ^^^ r) = r := by rw [← Nat.xor_assoc, Nat.xor_self, Nat.zero_xor]
theorem full_ex : ∃ n : Nat, n = 4294967295 := ⟨_, rfl⟩
/-- 2^32 - 1, not to be computed with. -/
noncomputable def full : Nat := full_ex.choose
theorem full_eq : full = 4294967295 := full_ex.choose_spec
noncomputable def flip (r : Nat) : Nat := full ^^^ r
theorem flip_flip (r : Nat) : flip (flip r) = r := by
  exact xor_back full r
theorem flip_lt {r : Nat} (h : r < 4294967296) : flip r < 4294967296 := Nat.xor_lt_two_pow (n := 32) (by rw [full_eq]; decide) h
/-- The sum with some bytes behind. -/
noncomputable def more (s : Nat) (l : List UInt8) : Nat := flip (reg (flip s) l)
noncomputable def sum (l : List UInt8) : Nat := more 0 l
theorem more_lt {s : Nat} (h : s < 4294967296) (l : List UInt8) : more s l < 4294967296 := flip_lt (reg_lt l (flip_lt h))
theorem sum_lt (l : List UInt8) : sum l < 4294967296 := more_lt (by decide) l
theorem more_append (s : Nat) (l m : List UInt8) : more s (l ++ m) = more (more s l) m := by
  unfold more; rw [flip_flip, reg_append]
theorem more_nil (s : Nat) : more s [] = s := by unfold more; exact flip_flip s

/-- A text as one number, the first byte lowest. -/
def num : List UInt8 → Nat
  | [] => 0
  | x :: l => x.toNat + 256 * num l

theorem add_xor (x y : Nat) (hx : x < 256) : x + 256 * y = x ^^^ (256 * y) := by
  have e := Nat.two_pow_add_eq_or_of_lt (i := 8) (b := x) (by omega) y
  apply Nat.eq_of_testBit_eq
  intro i
  rw [Nat.add_comm, show (256 : Nat) * y = 2 ^ 8 * y by rfl, e, Nat.testBit_or, Nat.testBit_xor, Nat.testBit_two_pow_mul]
  by_cases hi : 8 ≤ i
  · have : x.testBit i = false := Nat.testBit_lt_two_pow (Nat.lt_of_lt_of_le (by omega : x < 2 ^ 8) (Nat.pow_le_pow_right (by decide) hi))
    simp [this]
  · simp [hi]

theorem reg_num (l : List UInt8) : ∀ r : Nat, reg r l = bitN (8 * l.length) (r ^^^ num l) := by
  induction l with
  | nil => intro r; simp [reg, num, bitN]
  | cons x l ih =>
    intro r
    have e : reg r (x :: l) = reg (byte1 r x.toNat) l := rfl
    rw [e, ih]
    have hl : 8 * (x :: l).length = 8 + 8 * l.length := by simp; omega
    rw [hl, bitN_add]
    congr 1
    unfold byte1
    simp only [num]
    rw [add_xor _ _ x.toNat_lt, ← Nat.xor_assoc, bitN_xor 8 (r ^^^ x.toNat)]
    congr 1
    exact (bitN_shl 8 (num l)).symm

theorem xor_ne {a b : Nat} (h : a ≠ b) : a ^^^ b ≠ 0 := by
  intro e
  apply h
  have := congrArg (fun x => x ^^^ b) e
  simpa [Nat.xor_assoc] using this

/-- Two texts as long as each other whose numbers part by a burst of at most 32 bits have other sums. -/
theorem sum_burst {l m : List UInt8} (hl : l.length = m.length) (s t : Nat) (ht : t ≠ 0) (ht2 : t < 4294967296) (hs' : s ≤ 8 * l.length)
    (h : num l = num m ^^^ (2 ^ s * t)) : sum l ≠ sum m := by
  intro e
  unfold sum more at e
  have e2 : reg (flip 0) l = reg (flip 0) m := by
    have := congrArg flip e
    rwa [flip_flip, flip_flip] at this
  rw [reg_num, reg_num, hl, h] at e2
  have e3 : bitN (8 * m.length) (flip 0 ^^^ (num m ^^^ 2 ^ s * t)) = bitN (8 * m.length) (flip 0 ^^^ num m) ^^^ bitN (8 * m.length) (2 ^ s * t) := by
    rw [← Nat.xor_assoc, bitN_xor]
  rw [e3] at e2
  have e4 : bitN (8 * m.length) (2 ^ s * t) = 0 := by
    generalize bitN (8 * m.length) (flip 0 ^^^ num m) = y at e2
    have := congrArg (fun x => y ^^^ x) e2
    simp only [xor_back, Nat.xor_self] at this
    exact this
  rw [hl] at hs'
  have e5 : bitN (8 * m.length) (2 ^ s * t) = bitN (8 * m.length - s) t := by
    rw [show 8 * m.length = s + (8 * m.length - s) by omega, bitN_add, bitN_shl]
    congr 1
    omega
  rw [e5] at e4
  exact bitN_ne _ ht2 ht e4

/-- The sums of three texts as long as each other. -/
theorem xor_three (f a b c : Nat) : f ^^^ (a ^^^ b ^^^ c) = (f ^^^ a) ^^^ (f ^^^ b) ^^^ (f ^^^ c) := by
  apply Nat.eq_of_testBit_eq
  intro i
  simp only [Nat.testBit_xor]
  cases f.testBit i <;> cases a.testBit i <;> cases b.testBit i <;> cases c.testBit i <;> rfl
theorem sum_three {a b c x : List UInt8} (hb : b.length = a.length) (hc : c.length = a.length) (hx : x.length = a.length) (h : num x = num a ^^^ num b ^^^ num c) :
    sum x = sum a ^^^ sum b ^^^ sum c := by
  unfold sum more
  rw [reg_num, reg_num, reg_num, reg_num, hb, hc, hx, h]
  rw [xor_three, bitN_xor, bitN_xor]
  exact xor_three full _ _ _

end Go.Proofs.YtfmpbbeacpdalaaDoor.Crc

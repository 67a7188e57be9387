/-
  Head's Get: plain laws
-/
import Derived.Test.YtfmpbbeacpdalaaDoorHIOpen
import Derived.Test.YtfmpbbeacpdalaaDoorCrcPure2
import Derived.Test.YtfmpbbeacpdalaaDoorCrcRef2
import Derived.OpenShut
set_option linter.unusedVariables false
set_option linter.unusedSimpArgs false
namespace Go.Proofs.YtfmpbbeacpdalaaDoor
open Go.RowKit

theorem Rd.cut {w : World} {A : Option Addr} {c m : Nat} {l : List UInt8} (h : Rd w A c l) (hm : m ≤ l.length) (h0 : 0 < m) : Rd w A m (l.take m) := by
  refine ⟨by simp; omega, by have := h.max; have := h.le; omega, fun hA => ?_, fun a ha _ => h.form a ha (by omega), fun j hj a ha => ?_⟩
  · have := h.nil hA
    have := h.le
    omega
  · have hj' : j < l.length := by simp at hj; omega
    have := h.get j hj' a ha
    simpa using this
/-- A part of a slice, its capacity cut. -/
theorem slice_max {P : Program} {w : World} {A : Option Addr} {c : Nat} {l : List UInt8} {t : TypeId} {lo m : Nat} {l' h' m' : Option Value} (h : Rd w A c l) (ht : sliceT P t 1 = true) (h1 : lo < m) (h2 : m ≤ l.length)
    (hl : (l' = none ∧ lo = 0) ∨ ∃ k, l' = some (.int k (lo : Int))) (hh : ∃ k, h' = some (.int k (m : Int))) (hm : ∃ k, m' = some (.int k (m : Int))) (W : World) :
    (Instr.sliceAt t (.slice A l.length c) l' h' m').run P W = .ok (.slice (sub A m lo 1) ((l.drop lo).take (m - lo)).length (m - lo)) W ∧ Rd w (sub A m lo 1) (m - lo) ((l.drop lo).take (m - lo)) := by
  have hc := h.cut h2 (by omega)
  have e : ((l.drop lo).take (m - lo)).length = m - lo := by simp; omega
  have e2 : ((l.take m).drop lo).take (m - lo) = (l.drop lo).take (m - lo) := by
    rw [List.drop_take, List.take_take, Nat.min_self]
  obtain ⟨k1, rfl⟩ := hh
  obtain ⟨k2, rfl⟩ := hm
  have hs := slice_rd (P := P) (t := t) (lo := lo) (hi := m) (l' := l') (h' := some (.int k1 (m : Int))) hc ht (by omega) (by simp; omega) (by simp; omega) hl (.inr ⟨_, rfl⟩) W
  rw [e2] at hs
  refine ⟨?_, hs.2⟩
  obtain ⟨el, f, he, hf, hfs⟩ := sliceT_spec ht
  have hle := h.le
  have h0 : 0 < l.length := by omega
  have hA : A.all (·.spot.isNone) = true := by
    cases A with
    | none => rfl
    | some a => simp [h.form a rfl h0]
  have e1 : (if m = lo then A else A.map (·.add (lo * 1))) = sub A m lo 1 := by
    unfold sub
    split
    · rfl
    · cases A with
      | none => rfl
      | some a =>
        obtain ⟨b, o, s⟩ := a
        simp at hA
        subst hA
        simp [pt, add_plain]
  have hb : (Instr.sliceBounds true l.length c l' (some (.int k1 (m : Int))) (some (.int k2 (m : Int)))).run P W = .ok (lo, m, m) W := by
    have q1 : (m : Int) ≤ (c : Int) := by omega
    have q2 : (lo : Int) ≤ (m : Int) := by omega
    have q3 : (0 : Int) ≤ (lo : Int) := by omega
    have q4 : (0 : Int) ≤ (m : Int) := by omega
    have q5 : (lo : Nat) ≤ m := by omega
    have q6 : m ≤ c := by omega
    rcases hl with ⟨rfl, hl0⟩ | ⟨k1, rfl⟩
    · subst hl0
      simp [Instr.sliceBounds, Instr.sliceBound, asIntOf, Sem.run_bind, Sem.run_pure, Result.andThen_ok, q1, q4, q6]
    · simp [Instr.sliceBounds, Instr.sliceBound, asIntOf, Sem.run_bind, Sem.run_pure, Result.andThen_ok, q1, q2, q3, q4, q5, q6]
  rw [e]
  rw [Nat.mul_one] at e1
  simp [Instr.sliceAt, Instr.slice, Sem.run_bind, run_underlying he, hb, sizeOf, typeInfo, hf, hfs, e1]
/-- Bytes of its own and a number. -/
def RetCO (w : World) (r : List UInt8 × Nat) : Ending → World → Prop := Ret fun v w' => ∃ A c, v = .tuple #[.slice A r.1.length c, .int .i64 (r.2 : Int)] ∧ Rd w' A c r.1 ∧ Chg (fun _ => False) w w'
theorem check_e {w : World} {A : Option Addr} {c : Nat} {l : List UInt8} (hT : TabW w) (h : Rd w A c l) (h4 : 4 ≤ l.length) (hl : l.length ≤ 140737488355000) : Calls Tryd.prog 28 [.slice A l.length c].toArray w (RetCO w (chk l)) := (check_long A c l w hT h h4 hl).mono fun e w' h => by
  obtain ⟨v, rfl, ho, hb⟩ := h
  obtain ⟨A', c', rfl, hr⟩ := ho.rd
  exact ⟨A', c', rfl, hr, Chg.of_new hb⟩
theorem rcheck_e {w : World} {A : Option Addr} {c : Nat} {l : List UInt8} (h : Rd w A c l) (hl : l.length ≤ 140737488355000) : Calls Tryd.prog 33 [.slice A l.length c].toArray w (RetCO w (chk l)) := (refcheck_any A c l w h hl).mono fun e w' h => by
  obtain ⟨A', c', rfl, hr, hb⟩ := h
  exact ⟨A', c', rfl, hr, Chg.of_new hb⟩
/-- Two numbers stand ahead. -/
def TwoOf (l : List UInt8) (g la : Int) : Prop := (0 ≤ g ∧ g ≤ 9223372036854775807) ∧ (0 ≤ la ∧ la ≤ 9223372036854775807) ∧ ∃ rest, l = told g 8 false ++ told la 8 false ++ rest
theorem mod8 {n : Int} (h0 : 0 ≤ n) (h1 : n ≤ 9223372036854775807) : ((n.toNat % 256 ^ 8 : Nat) : Int) = n := by
  rw [Nat.mod_eq_of_lt (by have : (256 : Nat) ^ 8 = 18446744073709551616 := by decide
                           omega)]
  omega
theorem two_facts {l : List UInt8} {g la : Int} (h : TwoOf l g la) : numA l 0 8 false = .ok (.int .i64 g) ∧ numA l 8 8 false = .ok (.int .i64 la) := by
  obtain ⟨hg, hl, rest, rfl⟩ := h
  have h1 := num_told [] (told la 8 false ++ rest) g 8 false (by simp) hg.2
  have h2 := num_told (told g 8 false) rest la 8 false (by simp) hl.2
  rw [mod8 hg.1 hg.2] at h1
  rw [mod8 hl.1 hl.2, told_length] at h2
  refine ⟨?_, h2⟩
  simpa using h1
/-- How its reader ends. -/
def TwoS (l : List UInt8) (o : Except Int Unit) (g la : Int) : Prop :=
  (∃ k : Int, k ≠ 0 ∧ o = .error k ∧ ∀ x y, ¬ TwoOf l x y) ∨ (o = .ok () ∧ (0 ≤ g ∧ g ≤ 9223372036854775807) ∧ (0 ≤ la ∧ la ≤ 9223372036854775807) ∧ ∀ x y, TwoOf l x y → g = x ∧ la = y)
theorem TwoS.code {l : List UInt8} {o : Except Int Unit} {g la : Int} (h : TwoS l o g la) : (Go.Proofs.YtfmpbbeacpdalaaDoor.code o ≠ 0 ∧ ∀ x y, ¬ TwoOf l x y) ∨ (Go.Proofs.YtfmpbbeacpdalaaDoor.code o = 0 ∧ (0 ≤ g ∧ g ≤ 9223372036854775807) ∧ (0 ≤ la ∧ la ≤ 9223372036854775807) ∧ ∀ x y, TwoOf l x y → g = x ∧ la = y) := by
  rcases h with ⟨k, hk, rfl, h⟩ | ⟨rfl, h⟩
  · exact .inl ⟨hk, h⟩
  · exact .inr ⟨rfl, h⟩
/-- What a sector holds. -/
theorem sec_take (big : Bool) (gen first last : Int) : (sector big gen first last).take 124 = fill (body1 big gen first last) 124 := by
  unfold sector sealed
  rw [List.take_append_of_le_length (by rw [fill124]; exact Nat.le_refl _), List.take_of_length_le (by rw [fill124]; exact Nat.le_refl _)]
theorem sec_chk (big : Bool) (gen first last : Int) : chk (sector big gen first last) = ((sector big gen first last).take 124, 0) := by
  rw [sec_take]
  exact chk_sealed _
theorem sec_hdr {big : Bool} {gen first last : Int} (h : RightP gen first last) : HdrOf (((sector big gen first last).take 124).take 64) big first := by
  have hb := right_bounds h
  refine ⟨right_place h, by omega, by omega, zeros (64 - (hdr big first).length), ?_⟩
  rw [sec_take]
  unfold fill body1
  have h64 := fill64 big first
  rw [List.append_assoc, List.append_assoc, List.append_assoc, List.take_append_of_le_length (by rw [h64]; exact Nat.le_refl _), List.take_of_length_le (by rw [h64]; exact Nat.le_refl _)]
  rfl
theorem sec_two {big : Bool} {gen first last : Int} (h : RightP gen first last) (n : Nat) (hn : 16 ≤ n) : TwoOf ((((sector big gen first last).take 124).drop 68).take n) gen last := by
  have hb := right_bounds h
  refine ⟨by omega, by omega, (zeros (124 - (body1 big gen first last).length)).take (n - 16), ?_⟩
  rw [sec_take]
  unfold fill
  have h84 := body1_length big gen first last
  have e : body1 big gen first last = fill (hdr big first) 64 ++ [67, 76, 82, 89] ++ (told gen 8 false ++ told last 8 false) := by simp [body1]
  have h68 : (fill (hdr big first) 64 ++ [67, 76, 82, 89]).length = 68 := by rw [List.length_append, fill64]; rfl
  have ht : (told gen 8 false ++ told last 8 false).length = 16 := by simp [told_length]
  rw [h84, e, List.append_assoc, List.drop_append_of_le_length (by rw [h68]; exact Nat.le_refl _), List.drop_of_length_le (by rw [h68]; exact Nat.le_refl _), List.nil_append, List.take_append, ht, List.take_of_length_le (by omega)]
/-- A head's value, a head. -/
abbrev Hd := Bool × Int × Int × Int
def Hd.val (h : Hd) : Value := .agg #[.bool h.1, .int .i64 h.2.1, .int .i64 h.2.2.1, .int .i64 h.2.2.2]
def Hd.right (h : Hd) : Prop := RightP h.2.1 h.2.2.1 h.2.2.2
instance (h : Hd) : Decidable h.right := inferInstanceAs (Decidable (RightP _ _ _))
noncomputable def Hd.sec (h : Hd) : List UInt8 := sector h.1 h.2.1 h.2.2.1 h.2.2.2
/-- Why a sector is none. -/
noncomputable def secErr (b : List UInt8) : Nat := if b.length ≠ 128 then 1 else if (chk b).2 ≠ 0 then 8 else 4
open Classical in

/-- What Get tells of a sector. -/
noncomputable def got (b : List UInt8) : Hd × Nat := if h : ∃ x : Hd, x.right ∧ b = x.sec then (h.choose, 0) else ((false, 0, 0, 0), secErr b)
theorem got_no {b : List UInt8} (h : ∀ x : Hd, x.right → b ≠ x.sec) : got b = ((false, 0, 0, 0), secErr b) := by
  unfold got
  rw [dif_neg]
  rintro ⟨x, hx, rfl⟩
  exact h x hx rfl
theorem two_sec {x y : Hd} (hx : x.right) (hy : y.right) (h : x.sec = y.sec) : x = y := by
  obtain ⟨b1, g1, f1, l1⟩ := x
  obtain ⟨b2, g2, f2, l2⟩ := y
  have a1 := sec_hdr (big := b1) hx
  have a2 := sec_hdr (big := b2) hy
  have c1 := sec_two (big := b1) hx 56 (by decide)
  have c2 := sec_two (big := b2) hy 56 (by decide)
  have h' : sector b1 g1 f1 l1 = sector b2 g2 f2 l2 := h
  simp only at a1 a2 c1 c2
  rw [h'] at a1 c1
  have p1 := two_facts c1
  have p2 := two_facts c2
  rw [p2.1, p2.2] at p1
  have eg : g2 = g1 := by have := p1.1; injection this with this; injection this
  have el : l2 = l1 := by have := p1.2; injection this with this; injection this
  have F1 := hdr_facts a1
  have F2 := hdr_facts a2
  have n2 := F1.n2
  rw [F2.n2] at n2
  cases b1 <;> cases b2 <;> simp at n2
  · have m1 := F1.m4 rfl
    have m2 := F2.m4 rfl
    rw [m2] at m1
    injection m1 with m1
    injection m1 with _ m1
    simp only [Prod.mk.injEq, true_and]
    exact ⟨eg.symm, m1.symm, el.symm⟩
  · have m1 := F1.n8 rfl
    have m2 := F2.n8 rfl
    rw [m2] at m1
    injection m1 with m1
    injection m1 with _ m1
    simp only [Prod.mk.injEq, true_and]
    exact ⟨eg.symm, m1.symm, el.symm⟩
theorem got_yes {b : List UInt8} {x : Hd} (hx : x.right) (h : b = x.sec) : got b = (x, 0) := by
  unfold got
  have hh : ∃ y : Hd, y.right ∧ b = y.sec := ⟨x, hx, h⟩
  rw [dif_pos hh]
  have h2 := hh.choose_spec
  rw [two_sec h2.1 hx (h2.2.symm.trans h)]
theorem got_len {b : List UInt8} (h : b.length ≠ 128) : got b = ((false, 0, 0, 0), 1) := by
  rw [got_no, secErr, if_pos h]
  rintro x hx rfl
  exact h (sector_length _ _ _ _)
theorem got_chk {b : List UInt8} (h : b.length = 128) (hc : (chk b).2 ≠ 0) : got b = ((false, 0, 0, 0), 8) ∧ (chk b).2 = 8 := by
  constructor
  · rw [got_no, secErr, if_neg (by omega), if_pos hc]
    rintro x hx rfl
    have := sec_chk x.1 x.2.1 x.2.2.1 x.2.2.2
    unfold Hd.sec at hc
    rw [this] at hc
    exact hc rfl
  · revert hc
    unfold chk
    rw [if_neg (by omega)]
    split
    · intro h; exact absurd rfl h
    · intro _; rfl
theorem got_bad {b : List UInt8} (h : b.length = 128) (hc : (chk b).2 = 0) (hn : ∀ x : Hd, x.right → b ≠ x.sec) : got b = ((false, 0, 0, 0), 4) := by
  rw [got_no hn, secErr, if_neg (by omega), if_neg (by omega)]
theorem chk_text {b : List UInt8} (h : (chk b).2 = 0) (hl : b.length = 128) : (chk b).1 = b.take 124 := by
  revert h
  unfold chk
  rw [if_neg (by omega), hl]
  split
  · intro _; rfl
  · intro h; cases h
/-- What a sector's parts tell. -/
theorem sec_use {b : List UInt8} (hl : b.length = 128) (hc : (chk b).2 = 0) {x : Hd} (hx : x.right) (h : b = x.sec) :
    HdrOf (((chk b).1.drop 0).take (64 - 0)) x.1 x.2.2.1 ∧ TwoOf (((chk b).1.drop 68).take (124 - 68)) x.2.1 x.2.2.2 := by
  rw [chk_text hc hl, h]
  exact ⟨sec_hdr hx, sec_two hx 56 (by decide)⟩
theorem sec_is {b : List UInt8} {bg : Bool} {g f la : Int} (hl : b.length = 128) (hc : (chk b).2 = 0) (hO : ∀ big first, HdrOf (((chk b).1.drop 0).take (64 - 0)) big first → bg = big ∧ f = first)
    (hT : ∀ x y, TwoOf (((chk b).1.drop 68).take (124 - 68)) x y → g = x ∧ la = y) {x : Hd} (hx : x.right) (h : b = x.sec) : x = (bg, g, f, la) := by
  obtain ⟨h1, h2⟩ := sec_use hl hc hx h
  obtain ⟨rfl, rfl⟩ := hO _ _ h1
  obtain ⟨rfl, rfl⟩ := hT _ _ h2
  rfl
theorem sec_no {b : List UInt8} {y : Hd} (hI : ∀ x : Hd, x.right → b = x.sec → x = y) (h : ¬ y.right ∨ y.sec ≠ b) : ∀ x : Hd, x.right → b ≠ x.sec := fun x hx hb => by
  obtain rfl := hI x hx hb
  rcases h with h | h
  · exact h hx
  · exact h hb.symm
/-- Get's answer. -/
def GetR (w : World) (b : List UInt8) : Ending → World → Prop := Ret fun v w' => v = .tuple #[(got b).1.val, .int .i64 ((got b).2 : Int)] ∧ Chg (fun _ => False) w w'
end Go.Proofs.YtfmpbbeacpdalaaDoor

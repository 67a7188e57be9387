/-
  The walk of the cursor's Number.
-/
import Derived.Test.YtfmpbbeacpdalaaDoorCur
set_option linter.unusedVariables false
set_option linter.unusedSimpArgs false
namespace Go.Proofs.YtfmpbbeacpdalaaDoor
open Go.RowKit


/-- A number's bytes, the highest first. -/
def beN (l : List UInt8) : Nat := l.foldl (fun n x => n * 256 + x.toNat) 0
theorem beN_snoc (l : List UInt8) (x : UInt8) : beN (l ++ [x]) = beN l * 256 + x.toNat := by simp [beN]
theorem beN_lt (l : List UInt8) : beN l < 256 ^ l.length := by
  have key : ∀ (l : List UInt8) (n : Nat), l.foldl (fun n x => n * 256 + x.toNat) n < (n + 1) * 256 ^ l.length := by
    intro l
    induction l with
    | nil => intro n; simp
    | cons x l ih =>
      intro n
      have h := ih (n * 256 + x.toNat)
      have hx := x.toNat_lt
      simp only [List.foldl_cons, List.length_cons]
      refine Nat.lt_of_lt_of_le h ?_
      rw [Nat.pow_succ, Nat.mul_comm (256 ^ l.length), ← Nat.mul_assoc]
      exact Nat.mul_le_mul_right _ (by omega)
  unfold beN
  simpa using key l 0

/-- The bytes that are read as a number, the highest first. -/
def win (l : List UInt8) (at_ size : Nat) (big : Bool) : List UInt8 := if big then (l.drop at_).take size else ((l.drop at_).take size).reverse
def wide (size : Int) : Bool := size == 1 || size == 2 || size == 4 || size == 8
theorem width_any (size : Int) (w : World) : Calls Tryd.prog 39 #[.int .i64 size] w fun e w' => e = .returned (.bool (wide size)) ∧ w = w' := by
  unfold wide
  go_enter Tryd.func39, Tryd.ntmps39
  go_wp2
  all_goals
    go_ret
    refine ⟨?_, rfl⟩
    simp_all

theorem or_byte (q x : Nat) (hq : q < 72057594037927936) (hx : x < 256) : bits .or .u64 (IntKind.u64.wrap ((q : Int) * 256)) (x : Int) = ((q * 256 + x : Nat) : Int) := by
  have e : IntKind.u64.wrap ((q : Int) * 256) = ((256 * q : Nat) : Int) := by
    simp [IntKind.wrap, IntKind.bits, IntKind.signed]
    omega
  rw [e]
  have h1 : 256 * q % 18446744073709551616 = 256 * q := Nat.mod_eq_of_lt (by omega)
  have h2 : x % 18446744073709551616 = x := Nat.mod_eq_of_lt (by omega)
  have h3 := Nat.two_pow_add_eq_or_of_lt (i := 8) (b := x) (by omega) q
  simp only [bits, BitVec.ofInt_natCast, BitVec.toNat_or, BitVec.toNat_ofNat]
  simp only [IntKind.bits, Nat.reducePow, h1, h2]
  rw [show 256 * q ||| x = q * 256 + x by rw [show (256 : Nat) * q = 2 ^ 8 * q by rfl, ← h3]; omega]
  simp [IntKind.wrap, IntKind.bits, IntKind.signed]
  omega

theorem win_length (l : List UInt8) (at_ s : Nat) (big : Bool) (h : at_ + s ≤ l.length) : (win l at_ s big).length = s := by
  unfold win
  split <;> simp <;> omega
theorem win_big (l : List UInt8) (at_ s i : Nat) (h : at_ + s ≤ l.length) (hi : i < s) : (win l at_ s true)[i]'(by rw [win_length _ _ _ _ h]; exact hi) = l[at_ + i]'(by omega) := by
  simp [win]
theorem win_little (l : List UInt8) (at_ s i : Nat) (h : at_ + s ≤ l.length) (hi : i < s) : (win l at_ s false)[i]'(by rw [win_length _ _ _ _ h]; exact hi) = l[at_ + s - 1 - i]'(by omega) := by
  simp only [win, Bool.false_eq_true, if_false, List.getElem_reverse, List.getElem_take, List.getElem_drop, List.length_take, List.length_drop]
  congr 1
  omega

/-- Behind a cursor's question: it told, and stands further on; or it gave up. Nothing else is written. -/
def Asked (w : World) (p : Nat) (A : Option Addr) (c : Nat) (l : List UInt8) (at_ : Nat) (big : Bool) (to_ : Nat) (r : Except Nat Value) (e : Ending) (w' : World) : Prop :=
  w.grownBy w' (some p) ∧
  match r with
  | .ok v => e = .returned v ∧ Cur w' p A c l to_ big true
  | .error k => e = .panicked (gave k) ∧ Cur w' p A c l at_ big true

theorem Quiet.asked {w w' : World} {p : Nat} {A : Option Addr} {c : Nat} {l : List UInt8} {at_ : Nat} {big : Bool} {n : Nat} {k : Nat} (h : Cur w p A c l at_ big true) (hq : Quiet w w') : Asked w p A c l at_ big n (.error k) (.panicked (gave k)) w' := by
  obtain ⟨m, rfl⟩ := hq
  exact ⟨grown_drewN _ _ _, rfl, h.drewN m⟩

def numV (l : List UInt8) (at_ s : Nat) (big : Bool) : Except Nat Value := if beN (win l at_ s big) ≤ 9223372036854775807 then .ok (.int .i64 (beN (win l at_ s big) : Int)) else .error 2

set_option maxHeartbeats 1600000 in
theorem number_in (p : Nat) (A : Option Addr) (c : Nat) (l : List UInt8) (at_ : Nat) (big : Bool) (s : Nat) (w : World) (h : Cur w p A c l at_ big true) (hs : at_ + s ≤ l.length) (hs0 : 1 ≤ s) (hs8 : s ≤ 8) (hw : wide s = true) :
    Calls Tryd.prog 32 #[.pointer (some ⟨p, 0, none⟩), .int .i64 (s : Int)] w
      (Asked w p A c l at_ big (at_ + s) (numV l at_ s big)) := by
  have hl := h.rd.len
  have H := Go.Lib.hid h
  have HW := Go.Lib.hid hw
  clear h hw
  go_enter Tryd.func32, Tryd.ntmps32
  go_wp2_with (first
    | (go_at_call 46; refine (dead_any p true _ H.out.c3).mono ?_; rintro e w' ⟨rfl, rfl⟩)
    | (go_at_call 39; refine (width_any (s : Int) _).mono ?_; rintro e w' ⟨rfl, rfl⟩; rw [HW.out])
    | (go_at_call 47; refine (need_has p A c l at_ big (s : Int) _ H.out (by omega) (by omega)).mono ?_; rintro e w1 ⟨rfl, n, hw1⟩; have HQ := Go.Lib.hid hw1; clear hw1))
  have hc := Go.Lib.hid (show Cur w1 p A c l at_ big true by rw [HQ.out]; exact H.out.drewN n)
  have h0 := hc.out.c0
  have h1 := hc.out.c1
  have h2 := hc.out.c2
  have hf := hc.out.fz 1
  obtain ⟨wl, hwl⟩ : ∃ wl, wl = win l at_ s big := ⟨_, rfl⟩
  have hwn : wl.length = s := by rw [hwl]; exact win_length l at_ s big hs
  have HWL := Go.Lib.hid hwl
  have HWN := Go.Lib.hid hwn
  clear hwl hwn
  go_loop [5, 19] (fun nv iv => ∃ i q : Nat, i ≤ s ∧ iv = .int .i64 i ∧ nv = .int .u64 q ∧ Hid (q = beN (wl.take i))) (fun _ iv => s - (intOf iv).toNat)
  case atStart => exact ⟨0, 0, Nat.zero_le _, rfl, rfl, rfl⟩
  case round =>
    obtain ⟨i, q, hi, rfl, rfl, hq⟩ := hrel
    by_cases hlt : i < s
    · have hil : i < wl.length := by rw [HWN.out]; exact hlt
      obtain ⟨x, hx⟩ : ∃ x : Nat, x = (wl[i]).toNat := ⟨_, rfl⟩
      have hx8 : x < 256 := by rw [hx]; exact (wl[i]).toNat_lt
      have hq7 : q < 72057594037927936 := by
        have := beN_lt (wl.take i)
        rw [hq.out]
        refine Nat.lt_of_lt_of_le this ?_
        rw [List.length_take, HWN.out, Nat.min_eq_left hi]
        exact Nat.pow_le_pow_right (n := 256) (by decide) (by omega : i ≤ 7)
      have HX := Go.Lib.hid hx
      have hX0 : True := trivial
      have hsn : Hid (beN (wl.take (i + 1)) = q * 256 + x) := by
        show _ = _
        rw [take_snoc wl i hil, beN_snoc, hq.out, HX.out]
      have hkl : (if big then at_ + i else at_ + s - 1 - i) < l.length := by split <;> omega
      have hbyte : ∃ b o, A = some ⟨b, o, none⟩ ∧ w1.cell? ⟨b, o + (if big then at_ + i else at_ + s - 1 - i), none⟩ = some (.int .u8 (x : Int)) := by
        obtain ⟨b, o, e, hb⟩ := hc.out.rd.at_ hkl
        refine ⟨b, o, e, ?_⟩
        rw [hb, HX.out]
        congr 3
        have hw := HWL.out
        subst hw
        cases big
        · rw [win_little l at_ s i hs hlt]; rfl
        · rw [win_big l at_ s i hs hlt]; rfl
      obtain ⟨b, o, rfl, hcell⟩ := hbyte
      have HQ7 := Go.Lib.hid hq7
      clear hx hq7 hX0
      cases big
      · simp only [Bool.false_eq_true, if_false] at hcell hkl
        go_wp2
        refine ⟨⟨i + 1, q * 256 + x, by omega, by go_num, int_eq (or_byte q x HQ7.out hx8), hsn.out.symm⟩, by simp [intOf]; omega⟩
      · simp only [if_true] at hcell hkl
        go_wp2
        refine ⟨⟨i + 1, q * 256 + x, by omega, by go_num, int_eq (or_byte q x HQ7.out hx8), hsn.out.symm⟩, by simp [intOf]; omega⟩
    · have hii : i = s := by omega
      subst hii
      have hqv : q = beN wl := by
        have := hq.out
        rwa [← HWN.out, List.take_length] at this
      have HV : Hid (numV l at_ i big = if q ≤ 9223372036854775807 then .ok (.int .i64 (q : Int)) else .error 2) := by
        unfold numV
        rw [← HWL.out, ← hqv]
        rfl
      clear hqv hq
      by_cases hv : q ≤ 9223372036854775807
      · have HV2 : Hid (numV l at_ i big = .ok (.int .i64 (q : Int))) := by rw [HV.out, if_pos hv]; rfl
        clear HV
        go_wp2
        go_ret
        rw [HV2.out]
        have hm := hc.out.move (at_ + i)
        have hgr := grown_trans (row := some p) (by rw [HQ.out]; exact grown_drewN w _ n) hm.2
        refine ⟨?_, rfl, ?_⟩
        · exact hgr
        · exact hm.1
      · have HV2 : Hid (numV l at_ i big = .error 2) := by rw [HV.out, if_neg hv]; rfl
        clear HV
        go_wp2_with (go_at_call 44; refine (fail_live p 2 _ hc.out.c3 rfl).mono ?_; rintro e w' ⟨rfl, rfl⟩)
        refine ⟨rfl, ?_⟩
        rw [HV2.out]
        exact ⟨by rw [HQ.out]; exact grown_drewN w _ n, rfl, hc.out⟩

/-- What becomes of a cursor that is asked for a number: the number, or why there is none. -/
def numA (l : List UInt8) (at_ : Nat) (size : Int) (big : Bool) : Except Nat Value :=
  if wide size = false then .error 1 else if (l.length : Int) - at_ < size then .error 3 else numV l at_ size.toNat big

theorem wide_cases {size : Int} (h : wide size = true) : size = 1 ∨ size = 2 ∨ size = 4 ∨ size = 8 := by
  simp [wide] at h
  omega

set_option maxHeartbeats 800000 in
theorem number_any (p : Nat) (A : Option Addr) (c : Nat) (l : List UInt8) (at_ : Nat) (big : Bool) (size : Int) (w : World) (h : Cur w p A c l at_ big true) (hat : at_ ≤ l.length) :
    Calls Tryd.prog 32 #[.pointer (some ⟨p, 0, none⟩), .int .i64 size] w (Asked w p A c l at_ big (at_ + size.toNat) (numA l at_ size big)) := by
  by_cases hw : wide size = true
  · by_cases hs : (l.length : Int) - at_ < size
    · have e : numA l at_ size big = .error 3 := by unfold numA; rw [if_neg (by simp [hw]), if_pos hs]
      rw [e]
      have H := Go.Lib.hid h
      have HW := Go.Lib.hid hw
      have HS := Go.Lib.hid hs
      clear h hw hs e
      go_enter Tryd.func32, Tryd.ntmps32
      go_wp2_with (first
        | (go_at_call 46; refine (dead_any p true _ H.out.c3).mono ?_; rintro e w' ⟨rfl, rfl⟩)
        | (go_at_call 39; refine (width_any size _).mono ?_; rintro e w' ⟨rfl, rfl⟩; rw [HW.out])
        | (go_at_call 47; refine (need_short p A c l at_ big size _ H.out HS.out hat).mono ?_; rintro e w' ⟨rfl, hq⟩))
      exact ⟨rfl, Quiet.asked H.out hq⟩
    · obtain ⟨s, rfl⟩ : ∃ s : Nat, size = (s : Int) := ⟨size.toNat, by rcases wide_cases hw with h | h | h | h <;> omega⟩
      have e : numA l at_ s big = numV l at_ s big := by unfold numA; rw [if_neg (by simp [hw]), if_neg hs]; rfl
      rw [e]
      have hb : 1 ≤ s ∧ s ≤ 8 := by rcases wide_cases hw with h | h | h | h <;> omega
      exact number_in p A c l at_ big s w h (by omega) hb.1 hb.2 hw
  · have hw' : wide size = false := by simpa using hw
    have e : numA l at_ size big = .error 1 := by unfold numA; rw [if_pos hw']
    rw [e]
    have H := Go.Lib.hid h
    have HW := Go.Lib.hid hw'
    clear h hw hw' e
    go_enter Tryd.func32, Tryd.ntmps32
    go_wp2_with (first
      | (go_at_call 46; refine (dead_any p true _ H.out.c3).mono ?_; rintro e w' ⟨rfl, rfl⟩)
      | (go_at_call 39; refine (width_any size _).mono ?_; rintro e w' ⟨rfl, rfl⟩; rw [HW.out])
      | (go_at_call 44; refine (fail_live p 1 _ H.out.c3 rfl).mono ?_; rintro e w' ⟨rfl, rfl⟩))
    exact ⟨rfl, Quiet.asked H.out ⟨0, rfl⟩⟩

theorem number_dead (q : Option Addr) (size : Int) (w : World) (h : Dead w q) :
    Calls Tryd.prog 32 #[.pointer q, .int .i64 size] w fun e w' => e = .returned (.int .i64 0) ∧ w = w' := by
  have H := Go.Lib.hid h
  clear h
  go_enter Tryd.func32, Tryd.ntmps32
  go_wp2_with (go_at_call 46; refine (dead_dead q _ H.out).mono ?_; rintro e w' ⟨rfl, rfl⟩)
  go_ret
  exact ⟨rfl, rfl⟩

end Go.Proofs.YtfmpbbeacpdalaaDoor

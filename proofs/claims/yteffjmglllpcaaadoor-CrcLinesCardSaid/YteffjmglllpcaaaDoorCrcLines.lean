/-
  The walk of CrcLines.
-/
import Derived.Test.YteffjmglllpcaaaDoorCrcAwake
import Derived.Test.YteffjmglllpcaaaDoorCrcPure2
import Derived.Test.YteffjmglllpcaaaDoorW2
import Derived.Deep.RegionHeld3
set_option linter.unusedVariables false
set_option linter.unusedSimpArgs false
namespace Go.Proofs.YteffjmglllpcaaaDoor
open Go.RowKit

theorem TabW.drew {w : World} (h : TabW w) : TabW w.drew := fun i hi => h i hi
theorem RdP.drew {w : World} {A : Option Addr} {ps : Parts} (h : RdP w A ps) : RdP w.drew A ps :=
  ⟨h.max, fun j hj => let ⟨b, o, e, hc, hr⟩ := h.get j hj; ⟨b, o, e, hc, hr.drew⟩⟩
theorem own_n (A : Option Addr) (c : Nat) (l : List UInt8) (w : World) (hr : Rd w A c l) (n : Nat) (hn : n = l.length) (hl : n ≤ 140737488355328) :
    Calls Tryd.prog 10 #[.slice A n c] w (RetB w l) := by
  subst hn
  exact own_any A c l w hr hl
theorem RdP.oneN {w : World} {A : Option Addr} {c : Nat} {l : List UInt8} (h : Rd w A c l) (e : TypeId) (k : Nat) (hk : w.heap.size = k) (n : Nat) (hn : n = l.length) :
    RdP (w.alloc (.cells #[.slice A n c] e)) (some ⟨k, 0, none⟩) [(A, c, l)] := by
  subst hn
  exact RdP.one' h e k hk
/-- The first k of n places: the bytes of three texts, exclusive-ored; noughts behind. -/
def upto3 (la lb lc : List UInt8) (n k : Nat) : List UInt8 := (List.range n).map fun j => if j < k then la.getD j 0 ^^^ lb.getD j 0 ^^^ lc.getD j 0 else 0
theorem upto3_length (la lb lc : List UInt8) (n k : Nat) : (upto3 la lb lc n k).length = n := by simp [upto3]
theorem upto3_zero (la lb lc : List UInt8) (n : Nat) : upto3 la lb lc n 0 = List.replicate n 0 := by
  apply List.ext_getElem
  · simp [upto3]
  · intro i h1 h2; simp [upto3]
theorem upto3_set (la lb lc : List UInt8) (n k : Nat) (hk : k < n) (h0 : k < la.length) (h1 : k < lb.length) (h2 : k < lc.length) :
    upto3 la lb lc n (k + 1) = (upto3 la lb lc n k).set k (la[k] ^^^ lb[k] ^^^ lc[k]) := by
  apply List.ext_getElem
  · simp [upto3]
  · intro i h3 h4
    simp only [upto3, List.getElem_map, List.getElem_range, List.getElem_set]
    by_cases hi : k = i
    · subst hi
      simp [List.getD, h0, h1, h2]
    · rw [if_neg hi]
      by_cases h5 : i < k
      · rw [if_pos (by omega), if_pos h5]
      · rw [if_neg (by omega), if_neg h5]
theorem num_xor3 (n : Nat) : ∀ f g h : Nat → UInt8, Crc.num ((List.range n).map fun j => f j ^^^ g j ^^^ h j) = Crc.num ((List.range n).map f) ^^^ Crc.num ((List.range n).map g) ^^^ Crc.num ((List.range n).map h) := by
  induction n with
  | zero => intro f g h; simp [Crc.num]
  | succ n ih =>
    intro f g h
    have e := ih (fun j => f (j + 1)) (fun j => g (j + 1)) (fun j => h (j + 1))
    have s : ∀ q : Nat → UInt8, Crc.num ((List.range (n + 1)).map q) = (q 0).toNat ^^^ (256 * Crc.num ((List.range n).map fun j => q (j + 1))) := fun q => by
      rw [List.range_succ_eq_map, List.map_cons, Crc.num, Crc.add_xor _ _ (UInt8.toNat_lt _), List.map_map]
      rfl
    rw [s, s, s, s, e, UInt8.toNat_xor, UInt8.toNat_xor]
    generalize Crc.num ((List.range n).map fun j => f (j + 1)) = a
    generalize Crc.num ((List.range n).map fun j => g (j + 1)) = b
    generalize Crc.num ((List.range n).map fun j => h (j + 1)) = c
    have d : ∀ x y : Nat, 256 * (x ^^^ y) = (256 * x) ^^^ (256 * y) := fun x y => by
      rw [show (256 : Nat) = 2 ^ 8 by rfl, Nat.mul_comm, ← Nat.shiftLeft_eq, Nat.shiftLeft_xor_distrib, Nat.shiftLeft_eq, Nat.shiftLeft_eq, Nat.mul_comm x, Nat.mul_comm y]
    rw [d, d]
    apply Nat.eq_of_testBit_eq
    intro i
    simp only [Nat.testBit_xor]
    cases (f 0).toNat.testBit i <;> cases (g 0).toNat.testBit i <;> cases (h 0).toNat.testBit i <;> cases (256 * a).testBit i <;> cases (256 * b).testBit i <;> cases (256 * c).testBit i <;> rfl
theorem take_map (l : List UInt8) (n : Nat) (h : n ≤ l.length) : (List.range n).map (fun j => l.getD j 0) = l.take n := by
  apply List.ext_getElem
  · simp; omega
  · intro i h1 h2
    simp at h1 h2
    simp [List.getD, show i < l.length by omega]
theorem sum_upto3 (la lb lc : List UInt8) (n : Nat) (ha : n ≤ la.length) (hb : n ≤ lb.length) (hc : n ≤ lc.length) :
    Crc.sum (upto3 la lb lc n n) = Crc.sum (la.take n) ^^^ Crc.sum (lb.take n) ^^^ Crc.sum (lc.take n) := by
  refine Crc.sum_three (by simp; omega) (by simp; omega) (by simp [upto3]; omega) ?_
  have e : upto3 la lb lc n n = (List.range n).map fun j => la.getD j 0 ^^^ lb.getD j 0 ^^^ lc.getD j 0 := by
    apply List.ext_getElem
    · simp [upto3]
    · intro i h1 h2
      simp at h2
      simp [upto3, h2]
  rw [e, num_xor3, take_map la n ha, take_map lb n hb, take_map lc n hc]
theorem min2_int (k k' : IntKind) (x y : Int) : Builtin.min2 (.int k x) (.int k' y) = pure (.int k (if y < x then y else x)) := by simp only [Builtin.min2]
theorem min_three (ats : Array TypeId) (ty : TypeId) (a b c : Value) : Builtin.min_ ats ty #[a, b, c] = (Builtin.min2 a b >>= fun s => Builtin.min2 s c >>= fun s => pure s) := by simp only [Builtin.min_, List.foldlM_cons, List.foldlM_nil]

set_option maxHeartbeats 4000000 in
theorem crcLines_walk (A0 : Option Addr) (c0 : Nat) (la : List UInt8) (A1 : Option Addr) (c1 : Nat) (lb : List UInt8) (A2 : Option Addr) (c2 : Nat) (lc : List UInt8) (w : World) (hT : TabW w) (ha : Rd w A0 c0 la) (hb : Rd w A1 c1 lb) (hc : Rd w A2 c2 lc) :
    Calls Tryd.prog 8 #[.slice A0 la.length c0, .slice A1 lb.length c1, .slice A2 lc.length c2] w (RetTrue w) := by
  have hla := ha.len
  have hlb := hb.len
  have hlc := hc.len
  obtain ⟨n, hn⟩ : ∃ n, n = min la.length (min lb.length lc.length) := ⟨_, rfl⟩
  have hna : n ≤ la.length := by omega
  have hnb : n ≤ lb.length := by omega
  have hnc : n ≤ lc.length := by omega
  have HRa := Go.Lib.hid ha
  have HRb := Go.Lib.hid hb
  have HRc := Go.Lib.hid hc
  have HT := Go.Lib.hid hT
  have HB := Go.Lib.hid (Below.refl w.heap.size w)
  have hmin : ∀ (ats : Array TypeId) (ty : TypeId), Builtin.min_ ats ty #[.int .i64 (la.length : Int), .int .i64 (lb.length : Int), .int .i64 (lc.length : Int)] = pure (.int .i64 (n : Int)) := fun ats ty => by
    rw [min_three, min2_int]
    simp only [pure_bind, min2_int]
    congr 2
    split <;> split <;> omega
  clear ha hb hc hT hn
  by_cases h4 : n ≤ 4000
  · have hmk : ∀ W : World, (Instr.makeSlice 22 (.int .i64 (n : Int)) (.int .i64 (n : Int))).run Tryd.prog W = .ok (.slice (some ⟨W.heap.size, 0, none⟩) n n) (W.alloc (.cells (madeCells #[.int .u8 0] n) 5)) := fun W => make_b n (by omega) W
    obtain ⟨g, hg⟩ : ∃ g, g = w.heap.size := ⟨_, rfl⟩
    have HO := Go.Lib.hid (OwB.made w w.heap.size n (Nat.le_refl _) (by omega))
    have HB1 := Go.Lib.hid (below_alloc1 (o := .cells (madeCells #[.int .u8 0] n) 5) HB.out)
    rw [← hg] at HO
    have HG := Go.Lib.hid hg
    go_enter Tryd.func8, Tryd.ntmps8
    go_wp2_with fail
    rw [← hg]
    clear hg
    go_loopw [24] (fun iv W => ∃ k : Nat, k ≤ n ∧ iv = .int .i64 k ∧ Hid (OwB W g (.slice (some ⟨g, 0, none⟩) n n) (upto3 la lb lc n k)) ∧ Hid (Below w.heap.size w W)) (fun iv _ => n - (intOf iv).toNat)
    case atStart => exact ⟨0, Nat.zero_le _, rfl, by rw [upto3_zero]; exact HO.out, HB1.out⟩
    case round =>
      obtain ⟨k, hk, rfl, hog, hbg⟩ := hrel
      by_cases hlt : k < n
      · have hul : k < (upto3 la lb lc n k).length := by rw [upto3_length]; exact hlt
        obtain ⟨hcell, hfz⟩ := OwB.cell hog.out hul
        obtain ⟨b0, o0, rfl, hc0⟩ := (HRa.out.below hbg.out).at_ (show k < la.length by omega)
        obtain ⟨b1, o1, rfl, hc1⟩ := (HRb.out.below hbg.out).at_ (show k < lb.length by omega)
        obtain ⟨b2, o2, rfl, hc2⟩ := (HRc.out.below hbg.out).at_ (show k < lc.length by omega)
        obtain ⟨x0, hx0⟩ : ∃ x, x = la[k]'(by omega) := ⟨_, rfl⟩
        obtain ⟨x1, hx1⟩ : ∃ x, x = lb[k]'(by omega) := ⟨_, rfl⟩
        obtain ⟨x2, hx2⟩ : ∃ x, x = lc[k]'(by omega) := ⟨_, rfl⟩
        obtain ⟨z, hz⟩ : ∃ z, z = ((upto3 la lb lc n k)[k]).toNat := ⟨_, rfl⟩
        obtain ⟨y1, hy1⟩ : ∃ y, y = x0 ^^^ x1 := ⟨_, rfl⟩
        obtain ⟨y2, hy2⟩ : ∃ y, y = y1 ^^^ x2 := ⟨_, rfl⟩
        rw [← hx0] at hc0
        rw [← hx1] at hc1
        rw [← hx2] at hc2
        rw [← hz] at hcell
        have e1 : bits .xor .u8 (x0.toNat : Int) (x1.toNat : Int) = (y1.toNat : Int) := by rw [hy1]; exact bits_xor_u8 ..
        have e2 : bits .xor .u8 (y1.toNat : Int) (x2.toNat : Int) = (y2.toNat : Int) := by rw [hy2]; exact bits_xor_u8 ..
        have hset := upto3_set la lb lc n k hlt (by omega) (by omega) (by omega)
        rw [← hx0, ← hx1, ← hx2, ← hy1, ← hy2] at hset
        have HS := Go.Lib.hid hset
        have hi1 : (k : Int) < (la.length : Int) := by omega
        have hi2 : (k : Int) < (lb.length : Int) := by omega
        have hi3 : (k : Int) < (lc.length : Int) := by omega
        have HUL := Go.Lib.hid hul
        clear hx0 hx1 hx2 hz hy1 hy2 hset hul
        go_wp2
        go_region
        go_wp2
        refine ⟨⟨k + 1, by omega, by go_num, ?_, (Below.setCell (p := ⟨g, k, none⟩) hbg.out (by rw [HG.out]; exact Nat.le_refl _) _).drew⟩, by simp [intOf]; omega⟩
        show OwB _ _ _ _
        rw [HS.out]
        exact OwB.set hog.out HUL.out y2
      · have hkk : k = n := by omega
        subst hkk
        obtain ⟨lx, hlx⟩ : ∃ lx, lx = upto3 la lb lc k k := ⟨_, rfl⟩
        obtain ⟨ta, hta⟩ : ∃ ta, ta = la.take k := ⟨_, rfl⟩
        obtain ⟨tb, htb⟩ : ∃ tb, tb = lb.take k := ⟨_, rfl⟩
        obtain ⟨tc, htc⟩ : ∃ tc, tc = lc.take k := ⟨_, rfl⟩
        have hsum : Crc.sum lx = Crc.sum ta ^^^ Crc.sum tb ^^^ Crc.sum tc := by rw [hlx, hta, htb, htc]; exact sum_upto3 la lb lc k hna hnb hnc
        have hbd := hbg.out
        have HLA : Hid (k = ta.length) := by rw [hta, List.length_take]; exact (Nat.min_eq_left hna).symm
        have HLB : Hid (k = tb.length) := by rw [htb, List.length_take]; exact (Nat.min_eq_left hnb).symm
        have HLC : Hid (k = tc.length) := by rw [htc, List.length_take]; exact (Nat.min_eq_left hnc).symm
        have HLX : Hid (k = lx.length) := by rw [hlx, upto3_length]; rfl
        have HT1 := Go.Lib.hid (HT.out.below hbd)
        have ra := (HRa.out.take k hna).below hbd
        have rb := (HRb.out.take k hnb).below hbd
        have rc := (HRc.out.take k hnc).below hbd
        rw [← hta] at ra
        rw [← htb] at rb
        rw [← htc] at rc
        obtain ⟨ax, cx, hax, hrx⟩ := hog.out.rd
        rw [upto3_length] at hax
        cases hax
        rw [← hlx] at hrx
        have HRa1 := Go.Lib.hid ra
        have HRb1 := Go.Lib.hid rb
        have HRc1 := Go.Lib.hid rc
        have HRx := Go.Lib.hid hrx
        have k0 : (k : Int) ≤ (c0 : Int) := by have := HRa.out.le; omega
        have k1 : (k : Int) ≤ (c1 : Int) := by have := HRb.out.le; omega
        have k2 : (k : Int) ≤ (c2 : Int) := by have := HRc.out.le; omega
        have sa := Go.Lib.hid (Crc.sum_lt ta)
        have sb := Go.Lib.hid (Crc.sum_lt tb)
        have sc := Go.Lib.hid (Crc.sum_lt tc)
        have x1 := bits_xor_u32 _ _ sa.out sb.out
        have x2 := bits_xor_u32 _ _ (Nat.xor_lt_two_pow (n := 32) sa.out sb.out) sc.out
        rw [← hsum] at x2
        clear hlx hta htb htc hsum ra rb rc hrx hbg hog HB HT HRa HRb HRc hmk HO HB1
        have HT := HT1
        have HB := Go.Lib.hid hbd
        clear HT1 hbd
        have st0 : True := trivial
        go_wp2_with fail
        go_region_held3 (fun _ => True) (trivial)
          (first
    | (go_at_call 12; have t_ := st0; clear t_; go_must (refine (sum_eq (some ⟨_, 0, none⟩) 1 [(some ⟨g, 0, none⟩, k, lx)] _ (by first | exact HT.out | exact TabW.alloc (HT.out) _ | exact TabW.alloc (TabW.alloc (HT.out) _) _ | exact TabW.alloc (TabW.alloc (TabW.alloc (HT.out) _) _) _ | exact TabW.alloc (TabW.alloc (TabW.alloc (TabW.alloc (HT.out) _) _) _) _ | exact TabW.drew (HT.out) | exact TabW.drew (TabW.alloc (HT.out) _) | exact TabW.drew (TabW.alloc (TabW.alloc (HT.out) _) _) | exact TabW.drew (TabW.alloc (TabW.alloc (TabW.alloc (HT.out) _) _) _) | exact TabW.drew (TabW.alloc (TabW.alloc (TabW.alloc (TabW.alloc (HT.out) _) _) _) _)) (RdP.drew (RdP.oneN HRx.out _ _ (by simp) k HLX.out)) lx (bytes1 ..)).mono ?_); rintro e w_ ⟨rfl, rfl⟩; clear st0; have st1 : True := trivial)
    | (go_at_call 10; have t_ := st1; clear t_; go_must (refine (own_n _ _ ta _ (by first | exact HRa1.out | exact Rd.alloc (HRa1.out) _ | exact Rd.alloc (Rd.alloc (HRa1.out) _) _ | exact Rd.alloc (Rd.alloc (Rd.alloc (HRa1.out) _) _) _ | exact Rd.alloc (Rd.alloc (Rd.alloc (Rd.alloc (HRa1.out) _) _) _) _ | exact Rd.drew (HRa1.out) | exact Rd.drew (Rd.alloc (HRa1.out) _) | exact Rd.drew (Rd.alloc (Rd.alloc (HRa1.out) _) _) | exact Rd.drew (Rd.alloc (Rd.alloc (Rd.alloc (HRa1.out) _) _) _) | exact Rd.drew (Rd.alloc (Rd.alloc (Rd.alloc (Rd.alloc (HRa1.out) _) _) _) _)) k HLA.out (by omega)).mono ?_); rintro e wp ⟨vp, rfl, hop, hbp⟩; obtain ⟨Ap, cp, rfl, hrp⟩ := hop.rd; clear hop; have n_ := Go.Lib.hid (Below.step (by first | exact HB.out | exact below_alloc1 (HB.out) | exact below_alloc1 (below_alloc1 (HB.out)) | exact below_alloc1 (below_alloc1 (below_alloc1 (HB.out))) | exact below_alloc1 (below_alloc1 (below_alloc1 (below_alloc1 (HB.out)))) | exact (HB.out).drew | exact (below_alloc1 (HB.out)).drew | exact (below_alloc1 (below_alloc1 (HB.out))).drew | exact (below_alloc1 (below_alloc1 (below_alloc1 (HB.out)))).drew | exact (below_alloc1 (below_alloc1 (below_alloc1 (below_alloc1 (HB.out))))).drew) hbp); clear HB; have HB := n_; clear n_; have n_ := Go.Lib.hid (TabW.below (by first | exact HT.out | exact TabW.alloc (HT.out) _ | exact TabW.alloc (TabW.alloc (HT.out) _) _ | exact TabW.alloc (TabW.alloc (TabW.alloc (HT.out) _) _) _ | exact TabW.alloc (TabW.alloc (TabW.alloc (TabW.alloc (HT.out) _) _) _) _ | exact TabW.drew (HT.out) | exact TabW.drew (TabW.alloc (HT.out) _) | exact TabW.drew (TabW.alloc (TabW.alloc (HT.out) _) _) | exact TabW.drew (TabW.alloc (TabW.alloc (TabW.alloc (HT.out) _) _) _) | exact TabW.drew (TabW.alloc (TabW.alloc (TabW.alloc (TabW.alloc (HT.out) _) _) _) _)) hbp); clear HT; have HT := n_; clear n_; have n_ := Go.Lib.hid (Rd.below (by first | exact HRx.out | exact Rd.alloc (HRx.out) _ | exact Rd.alloc (Rd.alloc (HRx.out) _) _ | exact Rd.alloc (Rd.alloc (Rd.alloc (HRx.out) _) _) _ | exact Rd.alloc (Rd.alloc (Rd.alloc (Rd.alloc (HRx.out) _) _) _) _ | exact Rd.drew (HRx.out) | exact Rd.drew (Rd.alloc (HRx.out) _) | exact Rd.drew (Rd.alloc (Rd.alloc (HRx.out) _) _) | exact Rd.drew (Rd.alloc (Rd.alloc (Rd.alloc (HRx.out) _) _) _) | exact Rd.drew (Rd.alloc (Rd.alloc (Rd.alloc (Rd.alloc (HRx.out) _) _) _) _)) hbp); clear HRx; have HRx := n_; clear n_; have n_ := Go.Lib.hid (Rd.below (by first | exact HRa1.out | exact Rd.alloc (HRa1.out) _ | exact Rd.alloc (Rd.alloc (HRa1.out) _) _ | exact Rd.alloc (Rd.alloc (Rd.alloc (HRa1.out) _) _) _ | exact Rd.alloc (Rd.alloc (Rd.alloc (Rd.alloc (HRa1.out) _) _) _) _ | exact Rd.drew (HRa1.out) | exact Rd.drew (Rd.alloc (HRa1.out) _) | exact Rd.drew (Rd.alloc (Rd.alloc (HRa1.out) _) _) | exact Rd.drew (Rd.alloc (Rd.alloc (Rd.alloc (HRa1.out) _) _) _) | exact Rd.drew (Rd.alloc (Rd.alloc (Rd.alloc (Rd.alloc (HRa1.out) _) _) _) _)) hbp); clear HRa1; have HRa1 := n_; clear n_; have n_ := Go.Lib.hid (Rd.below (by first | exact HRb1.out | exact Rd.alloc (HRb1.out) _ | exact Rd.alloc (Rd.alloc (HRb1.out) _) _ | exact Rd.alloc (Rd.alloc (Rd.alloc (HRb1.out) _) _) _ | exact Rd.alloc (Rd.alloc (Rd.alloc (Rd.alloc (HRb1.out) _) _) _) _ | exact Rd.drew (HRb1.out) | exact Rd.drew (Rd.alloc (HRb1.out) _) | exact Rd.drew (Rd.alloc (Rd.alloc (HRb1.out) _) _) | exact Rd.drew (Rd.alloc (Rd.alloc (Rd.alloc (HRb1.out) _) _) _) | exact Rd.drew (Rd.alloc (Rd.alloc (Rd.alloc (Rd.alloc (HRb1.out) _) _) _) _)) hbp); clear HRb1; have HRb1 := n_; clear n_; have n_ := Go.Lib.hid (Rd.below (by first | exact HRc1.out | exact Rd.alloc (HRc1.out) _ | exact Rd.alloc (Rd.alloc (HRc1.out) _) _ | exact Rd.alloc (Rd.alloc (Rd.alloc (HRc1.out) _) _) _ | exact Rd.alloc (Rd.alloc (Rd.alloc (Rd.alloc (HRc1.out) _) _) _) _ | exact Rd.drew (HRc1.out) | exact Rd.drew (Rd.alloc (HRc1.out) _) | exact Rd.drew (Rd.alloc (Rd.alloc (HRc1.out) _) _) | exact Rd.drew (Rd.alloc (Rd.alloc (Rd.alloc (HRc1.out) _) _) _) | exact Rd.drew (Rd.alloc (Rd.alloc (Rd.alloc (Rd.alloc (HRc1.out) _) _) _) _)) hbp); clear HRc1; have HRc1 := n_; clear n_; clear hbp; have HRp := Go.Lib.hid hrp; clear hrp; clear st1; have st2 : True := trivial)
    | (go_at_call 12; have t_ := st2; clear t_; go_must (refine (sum_eq (some ⟨_, 0, none⟩) 1 [(Ap, cp, ta)] _ (by first | exact HT.out | exact TabW.alloc (HT.out) _ | exact TabW.alloc (TabW.alloc (HT.out) _) _ | exact TabW.alloc (TabW.alloc (TabW.alloc (HT.out) _) _) _ | exact TabW.alloc (TabW.alloc (TabW.alloc (TabW.alloc (HT.out) _) _) _) _ | exact TabW.drew (HT.out) | exact TabW.drew (TabW.alloc (HT.out) _) | exact TabW.drew (TabW.alloc (TabW.alloc (HT.out) _) _) | exact TabW.drew (TabW.alloc (TabW.alloc (TabW.alloc (HT.out) _) _) _) | exact TabW.drew (TabW.alloc (TabW.alloc (TabW.alloc (TabW.alloc (HT.out) _) _) _) _)) (RdP.one' (by first | exact HRp.out | exact Rd.alloc (HRp.out) _ | exact Rd.alloc (Rd.alloc (HRp.out) _) _ | exact Rd.alloc (Rd.alloc (Rd.alloc (HRp.out) _) _) _ | exact Rd.alloc (Rd.alloc (Rd.alloc (Rd.alloc (HRp.out) _) _) _) _ | exact Rd.drew (HRp.out) | exact Rd.drew (Rd.alloc (HRp.out) _) | exact Rd.drew (Rd.alloc (Rd.alloc (HRp.out) _) _) | exact Rd.drew (Rd.alloc (Rd.alloc (Rd.alloc (HRp.out) _) _) _) | exact Rd.drew (Rd.alloc (Rd.alloc (Rd.alloc (Rd.alloc (HRp.out) _) _) _) _)) _ _ (by first | rfl | simp)) ta (bytes1 ..)).mono ?_); rintro e w_ ⟨rfl, rfl⟩; clear st2; have st3 : True := trivial)
    | (go_at_call 10; have t_ := st3; clear t_; go_must (refine (own_n _ _ tb _ (by first | exact HRb1.out | exact Rd.alloc (HRb1.out) _ | exact Rd.alloc (Rd.alloc (HRb1.out) _) _ | exact Rd.alloc (Rd.alloc (Rd.alloc (HRb1.out) _) _) _ | exact Rd.alloc (Rd.alloc (Rd.alloc (Rd.alloc (HRb1.out) _) _) _) _ | exact Rd.drew (HRb1.out) | exact Rd.drew (Rd.alloc (HRb1.out) _) | exact Rd.drew (Rd.alloc (Rd.alloc (HRb1.out) _) _) | exact Rd.drew (Rd.alloc (Rd.alloc (Rd.alloc (HRb1.out) _) _) _) | exact Rd.drew (Rd.alloc (Rd.alloc (Rd.alloc (Rd.alloc (HRb1.out) _) _) _) _)) k HLB.out (by omega)).mono ?_); rintro e wq ⟨vq, rfl, hoq, hbq⟩; obtain ⟨Aq, cq, rfl, hrq⟩ := hoq.rd; clear hoq; have n_ := Go.Lib.hid (Below.step (by first | exact HB.out | exact below_alloc1 (HB.out) | exact below_alloc1 (below_alloc1 (HB.out)) | exact below_alloc1 (below_alloc1 (below_alloc1 (HB.out))) | exact below_alloc1 (below_alloc1 (below_alloc1 (below_alloc1 (HB.out)))) | exact (HB.out).drew | exact (below_alloc1 (HB.out)).drew | exact (below_alloc1 (below_alloc1 (HB.out))).drew | exact (below_alloc1 (below_alloc1 (below_alloc1 (HB.out)))).drew | exact (below_alloc1 (below_alloc1 (below_alloc1 (below_alloc1 (HB.out))))).drew) hbq); clear HB; have HB := n_; clear n_; have n_ := Go.Lib.hid (TabW.below (by first | exact HT.out | exact TabW.alloc (HT.out) _ | exact TabW.alloc (TabW.alloc (HT.out) _) _ | exact TabW.alloc (TabW.alloc (TabW.alloc (HT.out) _) _) _ | exact TabW.alloc (TabW.alloc (TabW.alloc (TabW.alloc (HT.out) _) _) _) _ | exact TabW.drew (HT.out) | exact TabW.drew (TabW.alloc (HT.out) _) | exact TabW.drew (TabW.alloc (TabW.alloc (HT.out) _) _) | exact TabW.drew (TabW.alloc (TabW.alloc (TabW.alloc (HT.out) _) _) _) | exact TabW.drew (TabW.alloc (TabW.alloc (TabW.alloc (TabW.alloc (HT.out) _) _) _) _)) hbq); clear HT; have HT := n_; clear n_; have n_ := Go.Lib.hid (Rd.below (by first | exact HRx.out | exact Rd.alloc (HRx.out) _ | exact Rd.alloc (Rd.alloc (HRx.out) _) _ | exact Rd.alloc (Rd.alloc (Rd.alloc (HRx.out) _) _) _ | exact Rd.alloc (Rd.alloc (Rd.alloc (Rd.alloc (HRx.out) _) _) _) _ | exact Rd.drew (HRx.out) | exact Rd.drew (Rd.alloc (HRx.out) _) | exact Rd.drew (Rd.alloc (Rd.alloc (HRx.out) _) _) | exact Rd.drew (Rd.alloc (Rd.alloc (Rd.alloc (HRx.out) _) _) _) | exact Rd.drew (Rd.alloc (Rd.alloc (Rd.alloc (Rd.alloc (HRx.out) _) _) _) _)) hbq); clear HRx; have HRx := n_; clear n_; have n_ := Go.Lib.hid (Rd.below (by first | exact HRa1.out | exact Rd.alloc (HRa1.out) _ | exact Rd.alloc (Rd.alloc (HRa1.out) _) _ | exact Rd.alloc (Rd.alloc (Rd.alloc (HRa1.out) _) _) _ | exact Rd.alloc (Rd.alloc (Rd.alloc (Rd.alloc (HRa1.out) _) _) _) _ | exact Rd.drew (HRa1.out) | exact Rd.drew (Rd.alloc (HRa1.out) _) | exact Rd.drew (Rd.alloc (Rd.alloc (HRa1.out) _) _) | exact Rd.drew (Rd.alloc (Rd.alloc (Rd.alloc (HRa1.out) _) _) _) | exact Rd.drew (Rd.alloc (Rd.alloc (Rd.alloc (Rd.alloc (HRa1.out) _) _) _) _)) hbq); clear HRa1; have HRa1 := n_; clear n_; have n_ := Go.Lib.hid (Rd.below (by first | exact HRb1.out | exact Rd.alloc (HRb1.out) _ | exact Rd.alloc (Rd.alloc (HRb1.out) _) _ | exact Rd.alloc (Rd.alloc (Rd.alloc (HRb1.out) _) _) _ | exact Rd.alloc (Rd.alloc (Rd.alloc (Rd.alloc (HRb1.out) _) _) _) _ | exact Rd.drew (HRb1.out) | exact Rd.drew (Rd.alloc (HRb1.out) _) | exact Rd.drew (Rd.alloc (Rd.alloc (HRb1.out) _) _) | exact Rd.drew (Rd.alloc (Rd.alloc (Rd.alloc (HRb1.out) _) _) _) | exact Rd.drew (Rd.alloc (Rd.alloc (Rd.alloc (Rd.alloc (HRb1.out) _) _) _) _)) hbq); clear HRb1; have HRb1 := n_; clear n_; have n_ := Go.Lib.hid (Rd.below (by first | exact HRc1.out | exact Rd.alloc (HRc1.out) _ | exact Rd.alloc (Rd.alloc (HRc1.out) _) _ | exact Rd.alloc (Rd.alloc (Rd.alloc (HRc1.out) _) _) _ | exact Rd.alloc (Rd.alloc (Rd.alloc (Rd.alloc (HRc1.out) _) _) _) _ | exact Rd.drew (HRc1.out) | exact Rd.drew (Rd.alloc (HRc1.out) _) | exact Rd.drew (Rd.alloc (Rd.alloc (HRc1.out) _) _) | exact Rd.drew (Rd.alloc (Rd.alloc (Rd.alloc (HRc1.out) _) _) _) | exact Rd.drew (Rd.alloc (Rd.alloc (Rd.alloc (Rd.alloc (HRc1.out) _) _) _) _)) hbq); clear HRc1; have HRc1 := n_; clear n_; have n_ := Go.Lib.hid (Rd.below (by first | exact HRp.out | exact Rd.alloc (HRp.out) _ | exact Rd.alloc (Rd.alloc (HRp.out) _) _ | exact Rd.alloc (Rd.alloc (Rd.alloc (HRp.out) _) _) _ | exact Rd.alloc (Rd.alloc (Rd.alloc (Rd.alloc (HRp.out) _) _) _) _ | exact Rd.drew (HRp.out) | exact Rd.drew (Rd.alloc (HRp.out) _) | exact Rd.drew (Rd.alloc (Rd.alloc (HRp.out) _) _) | exact Rd.drew (Rd.alloc (Rd.alloc (Rd.alloc (HRp.out) _) _) _) | exact Rd.drew (Rd.alloc (Rd.alloc (Rd.alloc (Rd.alloc (HRp.out) _) _) _) _)) hbq); clear HRp; have HRp := n_; clear n_; clear hbq; have HRq := Go.Lib.hid hrq; clear hrq; clear st3; have st4 : True := trivial)
    | (go_at_call 12; have t_ := st4; clear t_; go_must (refine (sum_eq (some ⟨_, 0, none⟩) 1 [(Aq, cq, tb)] _ (by first | exact HT.out | exact TabW.alloc (HT.out) _ | exact TabW.alloc (TabW.alloc (HT.out) _) _ | exact TabW.alloc (TabW.alloc (TabW.alloc (HT.out) _) _) _ | exact TabW.alloc (TabW.alloc (TabW.alloc (TabW.alloc (HT.out) _) _) _) _ | exact TabW.drew (HT.out) | exact TabW.drew (TabW.alloc (HT.out) _) | exact TabW.drew (TabW.alloc (TabW.alloc (HT.out) _) _) | exact TabW.drew (TabW.alloc (TabW.alloc (TabW.alloc (HT.out) _) _) _) | exact TabW.drew (TabW.alloc (TabW.alloc (TabW.alloc (TabW.alloc (HT.out) _) _) _) _)) (RdP.one' (by first | exact HRq.out | exact Rd.alloc (HRq.out) _ | exact Rd.alloc (Rd.alloc (HRq.out) _) _ | exact Rd.alloc (Rd.alloc (Rd.alloc (HRq.out) _) _) _ | exact Rd.alloc (Rd.alloc (Rd.alloc (Rd.alloc (HRq.out) _) _) _) _ | exact Rd.drew (HRq.out) | exact Rd.drew (Rd.alloc (HRq.out) _) | exact Rd.drew (Rd.alloc (Rd.alloc (HRq.out) _) _) | exact Rd.drew (Rd.alloc (Rd.alloc (Rd.alloc (HRq.out) _) _) _) | exact Rd.drew (Rd.alloc (Rd.alloc (Rd.alloc (Rd.alloc (HRq.out) _) _) _) _)) _ _ (by first | rfl | simp)) tb (bytes1 ..)).mono ?_); rintro e w_ ⟨rfl, rfl⟩; clear st4; have st5 : True := trivial)
    | (go_at_call 10; have t_ := st5; clear t_; go_must (refine (own_n _ _ tc _ (by first | exact HRc1.out | exact Rd.alloc (HRc1.out) _ | exact Rd.alloc (Rd.alloc (HRc1.out) _) _ | exact Rd.alloc (Rd.alloc (Rd.alloc (HRc1.out) _) _) _ | exact Rd.alloc (Rd.alloc (Rd.alloc (Rd.alloc (HRc1.out) _) _) _) _ | exact Rd.drew (HRc1.out) | exact Rd.drew (Rd.alloc (HRc1.out) _) | exact Rd.drew (Rd.alloc (Rd.alloc (HRc1.out) _) _) | exact Rd.drew (Rd.alloc (Rd.alloc (Rd.alloc (HRc1.out) _) _) _) | exact Rd.drew (Rd.alloc (Rd.alloc (Rd.alloc (Rd.alloc (HRc1.out) _) _) _) _)) k HLC.out (by omega)).mono ?_); rintro e wr ⟨vr, rfl, hor, hbr⟩; obtain ⟨Ar, cr, rfl, hrr⟩ := hor.rd; clear hor; have n_ := Go.Lib.hid (Below.step (by first | exact HB.out | exact below_alloc1 (HB.out) | exact below_alloc1 (below_alloc1 (HB.out)) | exact below_alloc1 (below_alloc1 (below_alloc1 (HB.out))) | exact below_alloc1 (below_alloc1 (below_alloc1 (below_alloc1 (HB.out)))) | exact (HB.out).drew | exact (below_alloc1 (HB.out)).drew | exact (below_alloc1 (below_alloc1 (HB.out))).drew | exact (below_alloc1 (below_alloc1 (below_alloc1 (HB.out)))).drew | exact (below_alloc1 (below_alloc1 (below_alloc1 (below_alloc1 (HB.out))))).drew) hbr); clear HB; have HB := n_; clear n_; have n_ := Go.Lib.hid (TabW.below (by first | exact HT.out | exact TabW.alloc (HT.out) _ | exact TabW.alloc (TabW.alloc (HT.out) _) _ | exact TabW.alloc (TabW.alloc (TabW.alloc (HT.out) _) _) _ | exact TabW.alloc (TabW.alloc (TabW.alloc (TabW.alloc (HT.out) _) _) _) _ | exact TabW.drew (HT.out) | exact TabW.drew (TabW.alloc (HT.out) _) | exact TabW.drew (TabW.alloc (TabW.alloc (HT.out) _) _) | exact TabW.drew (TabW.alloc (TabW.alloc (TabW.alloc (HT.out) _) _) _) | exact TabW.drew (TabW.alloc (TabW.alloc (TabW.alloc (TabW.alloc (HT.out) _) _) _) _)) hbr); clear HT; have HT := n_; clear n_; have n_ := Go.Lib.hid (Rd.below (by first | exact HRx.out | exact Rd.alloc (HRx.out) _ | exact Rd.alloc (Rd.alloc (HRx.out) _) _ | exact Rd.alloc (Rd.alloc (Rd.alloc (HRx.out) _) _) _ | exact Rd.alloc (Rd.alloc (Rd.alloc (Rd.alloc (HRx.out) _) _) _) _ | exact Rd.drew (HRx.out) | exact Rd.drew (Rd.alloc (HRx.out) _) | exact Rd.drew (Rd.alloc (Rd.alloc (HRx.out) _) _) | exact Rd.drew (Rd.alloc (Rd.alloc (Rd.alloc (HRx.out) _) _) _) | exact Rd.drew (Rd.alloc (Rd.alloc (Rd.alloc (Rd.alloc (HRx.out) _) _) _) _)) hbr); clear HRx; have HRx := n_; clear n_; have n_ := Go.Lib.hid (Rd.below (by first | exact HRa1.out | exact Rd.alloc (HRa1.out) _ | exact Rd.alloc (Rd.alloc (HRa1.out) _) _ | exact Rd.alloc (Rd.alloc (Rd.alloc (HRa1.out) _) _) _ | exact Rd.alloc (Rd.alloc (Rd.alloc (Rd.alloc (HRa1.out) _) _) _) _ | exact Rd.drew (HRa1.out) | exact Rd.drew (Rd.alloc (HRa1.out) _) | exact Rd.drew (Rd.alloc (Rd.alloc (HRa1.out) _) _) | exact Rd.drew (Rd.alloc (Rd.alloc (Rd.alloc (HRa1.out) _) _) _) | exact Rd.drew (Rd.alloc (Rd.alloc (Rd.alloc (Rd.alloc (HRa1.out) _) _) _) _)) hbr); clear HRa1; have HRa1 := n_; clear n_; have n_ := Go.Lib.hid (Rd.below (by first | exact HRb1.out | exact Rd.alloc (HRb1.out) _ | exact Rd.alloc (Rd.alloc (HRb1.out) _) _ | exact Rd.alloc (Rd.alloc (Rd.alloc (HRb1.out) _) _) _ | exact Rd.alloc (Rd.alloc (Rd.alloc (Rd.alloc (HRb1.out) _) _) _) _ | exact Rd.drew (HRb1.out) | exact Rd.drew (Rd.alloc (HRb1.out) _) | exact Rd.drew (Rd.alloc (Rd.alloc (HRb1.out) _) _) | exact Rd.drew (Rd.alloc (Rd.alloc (Rd.alloc (HRb1.out) _) _) _) | exact Rd.drew (Rd.alloc (Rd.alloc (Rd.alloc (Rd.alloc (HRb1.out) _) _) _) _)) hbr); clear HRb1; have HRb1 := n_; clear n_; have n_ := Go.Lib.hid (Rd.below (by first | exact HRc1.out | exact Rd.alloc (HRc1.out) _ | exact Rd.alloc (Rd.alloc (HRc1.out) _) _ | exact Rd.alloc (Rd.alloc (Rd.alloc (HRc1.out) _) _) _ | exact Rd.alloc (Rd.alloc (Rd.alloc (Rd.alloc (HRc1.out) _) _) _) _ | exact Rd.drew (HRc1.out) | exact Rd.drew (Rd.alloc (HRc1.out) _) | exact Rd.drew (Rd.alloc (Rd.alloc (HRc1.out) _) _) | exact Rd.drew (Rd.alloc (Rd.alloc (Rd.alloc (HRc1.out) _) _) _) | exact Rd.drew (Rd.alloc (Rd.alloc (Rd.alloc (Rd.alloc (HRc1.out) _) _) _) _)) hbr); clear HRc1; have HRc1 := n_; clear n_; have n_ := Go.Lib.hid (Rd.below (by first | exact HRp.out | exact Rd.alloc (HRp.out) _ | exact Rd.alloc (Rd.alloc (HRp.out) _) _ | exact Rd.alloc (Rd.alloc (Rd.alloc (HRp.out) _) _) _ | exact Rd.alloc (Rd.alloc (Rd.alloc (Rd.alloc (HRp.out) _) _) _) _ | exact Rd.drew (HRp.out) | exact Rd.drew (Rd.alloc (HRp.out) _) | exact Rd.drew (Rd.alloc (Rd.alloc (HRp.out) _) _) | exact Rd.drew (Rd.alloc (Rd.alloc (Rd.alloc (HRp.out) _) _) _) | exact Rd.drew (Rd.alloc (Rd.alloc (Rd.alloc (Rd.alloc (HRp.out) _) _) _) _)) hbr); clear HRp; have HRp := n_; clear n_; have n_ := Go.Lib.hid (Rd.below (by first | exact HRq.out | exact Rd.alloc (HRq.out) _ | exact Rd.alloc (Rd.alloc (HRq.out) _) _ | exact Rd.alloc (Rd.alloc (Rd.alloc (HRq.out) _) _) _ | exact Rd.alloc (Rd.alloc (Rd.alloc (Rd.alloc (HRq.out) _) _) _) _ | exact Rd.drew (HRq.out) | exact Rd.drew (Rd.alloc (HRq.out) _) | exact Rd.drew (Rd.alloc (Rd.alloc (HRq.out) _) _) | exact Rd.drew (Rd.alloc (Rd.alloc (Rd.alloc (HRq.out) _) _) _) | exact Rd.drew (Rd.alloc (Rd.alloc (Rd.alloc (Rd.alloc (HRq.out) _) _) _) _)) hbr); clear HRq; have HRq := n_; clear n_; clear hbr; have HRr := Go.Lib.hid hrr; clear hrr; clear st5; have st6 : True := trivial)
    | (go_at_call 12; have t_ := st6; clear t_; go_must (refine (sum_eq (some ⟨_, 0, none⟩) 1 [(Ar, cr, tc)] _ (by first | exact HT.out | exact TabW.alloc (HT.out) _ | exact TabW.alloc (TabW.alloc (HT.out) _) _ | exact TabW.alloc (TabW.alloc (TabW.alloc (HT.out) _) _) _ | exact TabW.alloc (TabW.alloc (TabW.alloc (TabW.alloc (HT.out) _) _) _) _ | exact TabW.drew (HT.out) | exact TabW.drew (TabW.alloc (HT.out) _) | exact TabW.drew (TabW.alloc (TabW.alloc (HT.out) _) _) | exact TabW.drew (TabW.alloc (TabW.alloc (TabW.alloc (HT.out) _) _) _) | exact TabW.drew (TabW.alloc (TabW.alloc (TabW.alloc (TabW.alloc (HT.out) _) _) _) _)) (RdP.one' (by first | exact HRr.out | exact Rd.alloc (HRr.out) _ | exact Rd.alloc (Rd.alloc (HRr.out) _) _ | exact Rd.alloc (Rd.alloc (Rd.alloc (HRr.out) _) _) _ | exact Rd.alloc (Rd.alloc (Rd.alloc (Rd.alloc (HRr.out) _) _) _) _ | exact Rd.drew (HRr.out) | exact Rd.drew (Rd.alloc (HRr.out) _) | exact Rd.drew (Rd.alloc (Rd.alloc (HRr.out) _) _) | exact Rd.drew (Rd.alloc (Rd.alloc (Rd.alloc (HRr.out) _) _) _) | exact Rd.drew (Rd.alloc (Rd.alloc (Rd.alloc (Rd.alloc (HRr.out) _) _) _) _)) _ _ (by first | rfl | simp)) tc (bytes1 ..)).mono ?_); rintro e w_ ⟨rfl, rfl⟩; clear st6; have st7 : True := trivial)
    | (go_at_call 9; have t_ := st7; clear t_; go_must (refine (awake_any _ (by first | exact HT.out | exact TabW.alloc (HT.out) _ | exact TabW.alloc (TabW.alloc (HT.out) _) _ | exact TabW.alloc (TabW.alloc (TabW.alloc (HT.out) _) _) _ | exact TabW.alloc (TabW.alloc (TabW.alloc (TabW.alloc (HT.out) _) _) _) _ | exact TabW.drew (HT.out) | exact TabW.drew (TabW.alloc (HT.out) _) | exact TabW.drew (TabW.alloc (TabW.alloc (HT.out) _) _) | exact TabW.drew (TabW.alloc (TabW.alloc (TabW.alloc (HT.out) _) _) _) | exact TabW.drew (TabW.alloc (TabW.alloc (TabW.alloc (TabW.alloc (HT.out) _) _) _) _))).mono ?_); rintro e w907 ⟨rfl, hb907⟩; have n_ := Go.Lib.hid (Below.step (by first | exact HB.out | exact below_alloc1 (HB.out) | exact below_alloc1 (below_alloc1 (HB.out)) | exact below_alloc1 (below_alloc1 (below_alloc1 (HB.out))) | exact below_alloc1 (below_alloc1 (below_alloc1 (below_alloc1 (HB.out)))) | exact (HB.out).drew | exact (below_alloc1 (HB.out)).drew | exact (below_alloc1 (below_alloc1 (HB.out))).drew | exact (below_alloc1 (below_alloc1 (below_alloc1 (HB.out)))).drew | exact (below_alloc1 (below_alloc1 (below_alloc1 (below_alloc1 (HB.out))))).drew) hb907); clear HB; have HB := n_; clear n_; have n_ := Go.Lib.hid (TabW.below (by first | exact HT.out | exact TabW.alloc (HT.out) _ | exact TabW.alloc (TabW.alloc (HT.out) _) _ | exact TabW.alloc (TabW.alloc (TabW.alloc (HT.out) _) _) _ | exact TabW.alloc (TabW.alloc (TabW.alloc (TabW.alloc (HT.out) _) _) _) _ | exact TabW.drew (HT.out) | exact TabW.drew (TabW.alloc (HT.out) _) | exact TabW.drew (TabW.alloc (TabW.alloc (HT.out) _) _) | exact TabW.drew (TabW.alloc (TabW.alloc (TabW.alloc (HT.out) _) _) _) | exact TabW.drew (TabW.alloc (TabW.alloc (TabW.alloc (TabW.alloc (HT.out) _) _) _) _)) hb907); clear HT; have HT := n_; clear n_; have n_ := Go.Lib.hid (Rd.below (by first | exact HRx.out | exact Rd.alloc (HRx.out) _ | exact Rd.alloc (Rd.alloc (HRx.out) _) _ | exact Rd.alloc (Rd.alloc (Rd.alloc (HRx.out) _) _) _ | exact Rd.alloc (Rd.alloc (Rd.alloc (Rd.alloc (HRx.out) _) _) _) _ | exact Rd.drew (HRx.out) | exact Rd.drew (Rd.alloc (HRx.out) _) | exact Rd.drew (Rd.alloc (Rd.alloc (HRx.out) _) _) | exact Rd.drew (Rd.alloc (Rd.alloc (Rd.alloc (HRx.out) _) _) _) | exact Rd.drew (Rd.alloc (Rd.alloc (Rd.alloc (Rd.alloc (HRx.out) _) _) _) _)) hb907); clear HRx; have HRx := n_; clear n_; have n_ := Go.Lib.hid (Rd.below (by first | exact HRa1.out | exact Rd.alloc (HRa1.out) _ | exact Rd.alloc (Rd.alloc (HRa1.out) _) _ | exact Rd.alloc (Rd.alloc (Rd.alloc (HRa1.out) _) _) _ | exact Rd.alloc (Rd.alloc (Rd.alloc (Rd.alloc (HRa1.out) _) _) _) _ | exact Rd.drew (HRa1.out) | exact Rd.drew (Rd.alloc (HRa1.out) _) | exact Rd.drew (Rd.alloc (Rd.alloc (HRa1.out) _) _) | exact Rd.drew (Rd.alloc (Rd.alloc (Rd.alloc (HRa1.out) _) _) _) | exact Rd.drew (Rd.alloc (Rd.alloc (Rd.alloc (Rd.alloc (HRa1.out) _) _) _) _)) hb907); clear HRa1; have HRa1 := n_; clear n_; have n_ := Go.Lib.hid (Rd.below (by first | exact HRb1.out | exact Rd.alloc (HRb1.out) _ | exact Rd.alloc (Rd.alloc (HRb1.out) _) _ | exact Rd.alloc (Rd.alloc (Rd.alloc (HRb1.out) _) _) _ | exact Rd.alloc (Rd.alloc (Rd.alloc (Rd.alloc (HRb1.out) _) _) _) _ | exact Rd.drew (HRb1.out) | exact Rd.drew (Rd.alloc (HRb1.out) _) | exact Rd.drew (Rd.alloc (Rd.alloc (HRb1.out) _) _) | exact Rd.drew (Rd.alloc (Rd.alloc (Rd.alloc (HRb1.out) _) _) _) | exact Rd.drew (Rd.alloc (Rd.alloc (Rd.alloc (Rd.alloc (HRb1.out) _) _) _) _)) hb907); clear HRb1; have HRb1 := n_; clear n_; have n_ := Go.Lib.hid (Rd.below (by first | exact HRc1.out | exact Rd.alloc (HRc1.out) _ | exact Rd.alloc (Rd.alloc (HRc1.out) _) _ | exact Rd.alloc (Rd.alloc (Rd.alloc (HRc1.out) _) _) _ | exact Rd.alloc (Rd.alloc (Rd.alloc (Rd.alloc (HRc1.out) _) _) _) _ | exact Rd.drew (HRc1.out) | exact Rd.drew (Rd.alloc (HRc1.out) _) | exact Rd.drew (Rd.alloc (Rd.alloc (HRc1.out) _) _) | exact Rd.drew (Rd.alloc (Rd.alloc (Rd.alloc (HRc1.out) _) _) _) | exact Rd.drew (Rd.alloc (Rd.alloc (Rd.alloc (Rd.alloc (HRc1.out) _) _) _) _)) hb907); clear HRc1; have HRc1 := n_; clear n_; have n_ := Go.Lib.hid (Rd.below (by first | exact HRp.out | exact Rd.alloc (HRp.out) _ | exact Rd.alloc (Rd.alloc (HRp.out) _) _ | exact Rd.alloc (Rd.alloc (Rd.alloc (HRp.out) _) _) _ | exact Rd.alloc (Rd.alloc (Rd.alloc (Rd.alloc (HRp.out) _) _) _) _ | exact Rd.drew (HRp.out) | exact Rd.drew (Rd.alloc (HRp.out) _) | exact Rd.drew (Rd.alloc (Rd.alloc (HRp.out) _) _) | exact Rd.drew (Rd.alloc (Rd.alloc (Rd.alloc (HRp.out) _) _) _) | exact Rd.drew (Rd.alloc (Rd.alloc (Rd.alloc (Rd.alloc (HRp.out) _) _) _) _)) hb907); clear HRp; have HRp := n_; clear n_; have n_ := Go.Lib.hid (Rd.below (by first | exact HRq.out | exact Rd.alloc (HRq.out) _ | exact Rd.alloc (Rd.alloc (HRq.out) _) _ | exact Rd.alloc (Rd.alloc (Rd.alloc (HRq.out) _) _) _ | exact Rd.alloc (Rd.alloc (Rd.alloc (Rd.alloc (HRq.out) _) _) _) _ | exact Rd.drew (HRq.out) | exact Rd.drew (Rd.alloc (HRq.out) _) | exact Rd.drew (Rd.alloc (Rd.alloc (HRq.out) _) _) | exact Rd.drew (Rd.alloc (Rd.alloc (Rd.alloc (HRq.out) _) _) _) | exact Rd.drew (Rd.alloc (Rd.alloc (Rd.alloc (Rd.alloc (HRq.out) _) _) _) _)) hb907); clear HRq; have HRq := n_; clear n_; have n_ := Go.Lib.hid (Rd.below (by first | exact HRr.out | exact Rd.alloc (HRr.out) _ | exact Rd.alloc (Rd.alloc (HRr.out) _) _ | exact Rd.alloc (Rd.alloc (Rd.alloc (HRr.out) _) _) _ | exact Rd.alloc (Rd.alloc (Rd.alloc (Rd.alloc (HRr.out) _) _) _) _ | exact Rd.drew (HRr.out) | exact Rd.drew (Rd.alloc (HRr.out) _) | exact Rd.drew (Rd.alloc (Rd.alloc (HRr.out) _) _) | exact Rd.drew (Rd.alloc (Rd.alloc (Rd.alloc (HRr.out) _) _) _) | exact Rd.drew (Rd.alloc (Rd.alloc (Rd.alloc (Rd.alloc (HRr.out) _) _) _) _)) hb907); clear HRr; have HRr := n_; clear n_; clear hb907; clear st7; have st8 : True := trivial))
        go_wp2
        go_ret
        exact ⟨rfl, HB.out⟩
  · (go_enter Tryd.func8, Tryd.ntmps8; go_wp2_with (go_at_call 9; refine (awake_any _ HT.out).mono ?_; rintro e w' ⟨rfl, hb⟩); go_ret; exact ⟨rfl, hb⟩)
end Go.Proofs.YteffjmglllpcaaaDoor

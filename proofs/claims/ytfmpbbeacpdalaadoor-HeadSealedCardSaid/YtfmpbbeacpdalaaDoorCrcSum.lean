/-
  The walks of crc.Sum, crc.Seal and of the law's own copy.
-/
import Derived.Test.YtfmpbbeacpdalaaDoorCrcMore
set_option linter.unusedVariables false
set_option linter.unusedSimpArgs false
namespace Go.Proofs.YtfmpbbeacpdalaaDoor
open Go.RowKit


/-- A list of byte slices: of each its address, its capacity, its bytes. -/
abbrev Parts := List (Option Addr × Nat × List UInt8)
structure RdP (w : World) (A : Option Addr) (ps : Parts) : Prop where
  max : ps.length ≤ 9223372036854775807
  get : ∀ j (h : j < ps.length), ∃ b o, A = some ⟨b, o, none⟩ ∧ w.cell? ⟨b, o + j, none⟩ = some (.slice ps[j].1 ps[j].2.2.length ps[j].2.1) ∧ Rd w ps[j].1 ps[j].2.1 ps[j].2.2
def bytesOf (ps : Parts) : List UInt8 := (ps.map fun p => p.2.2).flatten
theorem bytesOf_snoc (ps : Parts) (k : Nat) (h : k < ps.length) : bytesOf (ps.take (k + 1)) = bytesOf (ps.take k) ++ ps[k].2.2 := by
  unfold bytesOf
  rw [take_snoc _ _ h, List.map_append, List.flatten_append]
  simp

set_option maxHeartbeats 400000 in
theorem sum_any (A : Option Addr) (c : Nat) (ps : Parts) (w : World) (hT : TabW w) (hr : RdP w A ps) :
    Calls Tryd.prog 40 #[.slice A ps.length c] w fun e w' => e = .returned (.int .u32 (Crc.sum (bytesOf ps) : Int)) ∧ w' = w := by
  have hlen := hr.max
  have HT := Go.Lib.hid hT
  have HR := Go.Lib.hid hr
  clear hT hr
  go_enter Tryd.func40, Tryd.ntmps40
  go_wp2
  go_loop [3, 8] (fun r i => ∃ k : Nat, k ≤ ps.length ∧ i = .int .i64 k ∧ r = .int .u32 (Crc.sum (bytesOf (ps.take k)) : Nat)) (fun _ i => ps.length - (intOf i).toNat)
  case atStart => exact ⟨0, Nat.zero_le _, rfl, int_eq (by rw [show bytesOf (ps.take 0) = [] by simp [bytesOf]]; unfold Crc.sum; rw [Crc.more_nil]; rfl)⟩
  case round =>
    obtain ⟨k, hk, rfl, rfl⟩ := hrel
    by_cases hlt : k < ps.length
    · obtain ⟨b, o, rfl, hc, hrk⟩ := HR.out.get k hlt
      have hs := Crc.sum_lt (bytesOf (ps.take k))
      obtain ⟨s, hse⟩ : ∃ s, s = Crc.sum (bytesOf (ps.take k)) := ⟨_, rfl⟩
      rw [← hse] at hs ⊢
      have HS := Go.Lib.hid hse
      have HK := Go.Lib.hid hrk
      have HSL := Go.Lib.hid hs
      clear hse hrk hs
      go_wp2_with (go_at_call 51; refine (more_any s HSL.out _ _ _ _ HT.out HK.out).mono ?_; rintro e w' ⟨rfl, rfl⟩)
      refine ⟨⟨k + 1, by omega, by go_num, int_eq ?_⟩, by simp [intOf]; omega⟩
      rw [bytesOf_snoc ps k hlt, HS.out]
      unfold Crc.sum
      rw [Crc.more_append]
    · have hkk : k = ps.length := by omega
      subst hkk
      go_wp2
      go_ret
      exact ⟨rfl, rfl⟩

theorem TabW.below {w w' : World} (h : TabW w) (hb : Below w.heap.size w w') : TabW w' := fun i hi => (hb.cell (World.block_lt_of_cell? w _ (h i hi))).trans (h i hi)
theorem TabW.alloc {w : World} (h : TabW w) (o : Obj) : TabW (w.alloc o) := h.below ((Below.refl _ _).alloc (Nat.le_refl _) o)

/-- A number's four lowest bytes, the lowest first. -/
def le4 (n : Nat) : List UInt8 := [UInt8.ofNat n, UInt8.ofNat (n / 256), UInt8.ofNat (n / 65536), UInt8.ofNat (n / 16777216)]
/-- Bytes with their sum behind. -/
noncomputable def sealed (l : List UInt8) : List UInt8 := l ++ le4 (Crc.sum l)
theorem sealed_length (l : List UInt8) : (sealed l).length = l.length + 4 := by simp [sealed, le4]

theorem RdP.one {w : World} {A : Option Addr} {c : Nat} {l : List UInt8} (h : Rd w A c l) (e : TypeId) :
    RdP (w.alloc (.cells #[.slice A l.length c] e)) (some ⟨w.heap.size, 0, none⟩) [(A, c, l)] :=
  ⟨by simp, fun j hj => by
    have : j = 0 := by simp at hj; omega
    subst this
    exact ⟨_, _, rfl, by simp, h.alloc _⟩⟩

theorem RdP.one' {w : World} {A : Option Addr} {c : Nat} {l : List UInt8} (h : Rd w A c l) (e : TypeId) (k : Nat) (hk : w.heap.size = k) :
    RdP (w.alloc (.cells #[.slice A l.length c] e)) (some ⟨k, 0, none⟩) [(A, c, l)] := by
  subst hk
  exact RdP.one h e
theorem RdP.two {w : World} {A B : Option Addr} {c d : Nat} {l m : List UInt8} (h : Rd w A c l) (k : Rd w B d m) (e : TypeId) (n : Nat) (hn : w.heap.size = n) :
    RdP (w.alloc (.cells #[.slice A l.length c, .slice B m.length d] e)) (some ⟨n, 0, none⟩) [(A, c, l), (B, d, m)] := by
  subst hn
  refine ⟨by simp, fun j hj => ?_⟩
  have : j = 0 ∨ j = 1 := by simp at hj; omega
  rcases this with rfl | rfl
  · exact ⟨_, _, rfl, by simp, h.alloc _⟩
  · exact ⟨_, _, rfl, by simp, k.alloc _⟩
theorem RdP.three {w : World} {A B C : Option Addr} {c d f : Nat} {l m q : List UInt8} (h : Rd w A c l) (k : Rd w B d m) (g : Rd w C f q) (e : TypeId) (n : Nat) (hn : w.heap.size = n) :
    RdP (w.alloc (.cells #[.slice A l.length c, .slice B m.length d, .slice C q.length f] e)) (some ⟨n, 0, none⟩) [(A, c, l), (B, d, m), (C, f, q)] := by
  subst hn
  refine ⟨by simp, fun j hj => ?_⟩
  have : j = 0 ∨ j = 1 ∨ j = 2 := by simp at hj; omega
  rcases this with rfl | rfl | rfl
  · exact ⟨_, _, rfl, by simp, h.alloc _⟩
  · exact ⟨_, _, rfl, by simp, k.alloc _⟩
  · exact ⟨_, _, rfl, by simp, g.alloc _⟩

theorem sum_eq (A : Option Addr) (c : Nat) (ps : Parts) (w : World) (hT : TabW w) (hr : RdP w A ps) (l : List UInt8) (h : bytesOf ps = l) :
    Calls Tryd.prog 40 #[.slice A ps.length c] w fun e w' => e = .returned (.int .u32 (Crc.sum l : Int)) ∧ w' = w := by
  subst h
  exact sum_any A c ps w hT hr
theorem more_eq (s : Nat) (hs : s < 4294967296) (A : Option Addr) (c : Nat) (l : List UInt8) (w : World) (hT : TabW w) (hr : Rd w A c l) (r : Nat) (h : Crc.more s l = r) :
    Calls Tryd.prog 51 #[.int .u32 (s : Int), .slice A l.length c] w fun e w' => e = .returned (.int .u32 (r : Int)) ∧ w' = w := by
  subst h
  exact more_any s hs A c l w hT hr
theorem sum_app (a b : List UInt8) : Crc.more (Crc.sum a) b = Crc.sum (a ++ b) := by unfold Crc.sum; rw [Crc.more_append]
theorem bytes1c (A : Option Addr) (c : Nat) (l : List UInt8) : bytesOf [(A, c, l)] = l := by simp [bytesOf]
theorem bytes2 (A B : Option Addr) (c d : Nat) (l m : List UInt8) : bytesOf [(A, c, l), (B, d, m)] = l ++ m := by simp [bytesOf]
theorem bytes3 (A B C : Option Addr) (c d e : Nat) (l m n : List UInt8) : bytesOf [(A, c, l), (B, d, m), (C, e, n)] = l ++ (m ++ n) := by simp [bytesOf]

theorem rd_four (w : World) (n : Nat) (x y z u : Int) (hx : x = (n : Int) % 256) (hy : y = ((n / 256 : Nat) : Int) % 256) (hz : z = ((n / 65536 : Nat) : Int) % 256) (hu : u = ((n / 16777216 : Nat) : Int) % 256) :
    Rd (w.alloc (.cells #[.int .u8 x, .int .u8 y, .int .u8 z, .int .u8 u] 5)) (some ⟨w.heap.size, 0, none⟩) 4 (le4 n) := by
  have e : (#[.int .u8 x, .int .u8 y, .int .u8 z, .int .u8 u] : Array Value) = (bs (le4 n)).toArray := by
    unfold bs le4
    simp [hx, hy, hz, hu]
  rw [e]
  obtain ⟨A, c, h1, h2⟩ := (OwB.lit w (le4 n) (by simp [le4]) (Nat.le_refl _)).rd
  cases h1
  exact h2

set_option maxHeartbeats 400000 in
theorem seal_any (A : Option Addr) (c : Nat) (l : List UInt8) (w : World) (hT : TabW w) (hr : Rd w A c l) (hl : l.length ≤ 140737488355000) :
    Calls Tryd.prog 25 #[.slice A l.length c] w (RetB w (sealed l)) := by
  have HR := Go.Lib.hid hr
  have HT := Go.Lib.hid hT
  clear hr hT
  have hs := Go.Lib.hid (Crc.sum_lt l)
  have hse : Crc.sum (bytesOf [(A, c, l)]) = Crc.sum l := by simp [bytesOf]
  obtain ⟨s, hss⟩ : ∃ s, s = Crc.sum l := ⟨_, rfl⟩
  have hsum : Calls Tryd.prog 40 #[.slice (some ⟨w.heap.size, 0, none⟩) 1 1] (w.alloc (.cells #[.slice A l.length c] 24)) fun e w' => e = .returned (.int .u32 (s : Int)) ∧ w' = (w.alloc (.cells #[.slice A l.length c] 24)) := by
    have := sum_any (some ⟨w.heap.size, 0, none⟩) 1 [(A, c, l)] (w.alloc (.cells #[.slice A l.length c] 24)) (HT.out.alloc _) (RdP.one HR.out _)
    rw [hse, ← hss] at this
    exact this
  clear hse
  have HS := Go.Lib.hid hss
  clear hss
  go_enter Tryd.func25, Tryd.ntmps25
  go_wp2_with (first
    | (go_at_call 40; refine hsum.mono ?_; rintro e w' ⟨rfl, rfl⟩; clear hsum)
    | (at_builtin; refine gate_app (.tmp 7) (.tmp 8) rfl ?_; go_must (refine app_b (w0 := w) rfl (.tmp 7) (.tmp 8) rfl w.heap.size _ [] l A _ c rfl rfl rfl ?o1 ?r1 ?b1 ?s1 ?l1 ?_); (case o1 => go_must (exact OwB.lit0 (w0 := w) ((Below.refl _ _).alloc (Nat.le_refl _) _) (Nat.le_refl _) (by simp))); (case r1 => go_must (exact (HR.out.alloc _).alloc _)); (case b1 => go_must (exact (((Below.refl _ _).alloc (Nat.le_refl _) _).alloc (by simp) _))); (case s1 => go_must (simp; omega)); (case l1 => go_must (simp; omega)); intro v1 w1 ho1 hb1 hg1; clear hg1)
    | (at_builtin; refine gate_app (.tmp 9) (.tmp 21) rfl ?_; go_must (refine app_b (w0 := w) rfl (.tmp 9) (.tmp 21) rfl w.heap.size _ l (le4 s) _ 4 4 rfl rfl rfl ?o2 ?r2 ?b2 ?s2 ?l2 ?_); (case o2 => go_must (exact ho1.alloc _)); (case r2 => go_must (exact rd_four w1 s _ _ _ _ rfl (by omega) (by omega) (by omega))); (case b2 => go_must (exact hb1.alloc hb1.size _)); (case s2 => go_must (have := hb1.size; simp; omega)); (case l2 => go_must (simp [le4]; omega)); intro v2 w2 ho2 hb2 hg2; clear hg2 ho1 hb1))
  go_ret
  refine ⟨_, rfl, ?_, hb2⟩
  rw [HS.out] at ho2
  exact ho2
end Go.Proofs.YtfmpbbeacpdalaaDoor

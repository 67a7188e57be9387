/-
  A panic of the reader's own: through Try, and out of goesOn.
-/
import Derived.Test.YtkhjgmcndieecaaWrote
set_option linter.unusedVariables false
set_option linter.unusedSimpArgs false
namespace Go.Proofs.Ytkhjgmcndieecaa
open Go.RowKit

/-- What a reader may panic with: a text. -/
def txt (t : ByteArray) : Value := .iface 9 (.string t)
def ent (t : ByteArray) (r : Bool) : PanicEntry := { v := txt t, recovered := r }

set_option maxHeartbeats 1600000 in
theorem catch_other (p v r : Nat) (t : ByteArray) (w : World) (A : Option Addr) (n c : Nat) (at_ : Int) (big live : Bool) (hp : w.heap[p]? = some (.cells #[.slice A n c, .int .i64 at_, .bool big, .bool live] 55 (0, 0))) (hv : w.cell? ⟨v, 0, none⟩ = some (.pointer (some ⟨p, 0, none⟩))) :
    CallsD Try.prog 39 #[.pointer (some ⟨v, 0, none⟩), .pointer (some ⟨r, 0, none⟩)] (.panicking [ent t false]) w fun e u' w' =>
      e = .panicked [ent t false] ∧ u' = .panicking [ent t true] ∧ w' = ((w.setCell ⟨p, 3, none⟩ (.bool false)).setCell ⟨p, 0, none⟩ (.slice none 0 0)).alloc (.cells #[.int .i64 0] 57) := by
  have h0 := (cell_of_heap hp 0)
  have h3 := (cell_of_heap hp 3)
  have f0 := (frozen_of_heap hp 0)
  have f3 := (frozen_of_heap hp 3)
  simp at h0 h3
  have hta : ∀ W : World, (Instr.typeAssert (.iface 9 (.string t)) 20 57 true).run Try.prog W = .ok (.tuple #[.agg #[.int .i64 0], .bool false]) W := fun W => by kernel_rfl
  refine callsD_of_wpS Try.func39 rfl fun c₀ cs hu => ?_
  rw [Try.ntmps39]
  rw [show (#[.pointer (some ⟨v, 0, none⟩), .pointer (some ⟨r, 0, none⟩)] ++ Array.replicate (24 - (#[.pointer (some ⟨v, 0, none⟩), .pointer (some ⟨r, 0, none⟩)] : Array Value).size) undef : Array Value) = #[.pointer (some ⟨v, 0, none⟩), .pointer (some ⟨r, 0, none⟩), undef, undef, undef, undef, undef, undef, undef, undef, undef, undef, undef, undef, undef, undef, undef, undef, undef, undef, undef, undef, undef, undef] from by kernel_rfl]
  refine wpS_seq_k fun K hK => ?_
  apply wpS_of_wp
  go_wp2
  refine hK _ _ _ ?_
  clear hK K
  refine wpS_seq_k fun K hK => ?_
  refine wpS_recover 11 2 (txt t) ({ c₀ with mode := .panicking [ent t true] } :: cs) rfl rfl rfl rfl rfl rfl (by simp) (.inl (by simp [recoverD, hu, ent])) ?_
  refine hK _ _ _ ?_
  clear hK K
  unfold txt
  refine wpS_of_wp ?_
  go_wp2
  simp_all [bodyPostS, ent, txt]
set_option maxHeartbeats 1600000 in
theorem try_other (A : Option Addr) (c : Nat) (l : List UInt8) (big : Bool) (F : FuncId) (cap : Array Value) (w : World) (t : ByteArray) (hr : Rd w A c l)
    (hF : ∀ (args : Array Value) (W : World), (callFunc F args).run Try.prog W = .ok (.enter F args) W)
    (hread : ∀ W, Below w.heap.size w W → W.heap.size = w.heap.size + 3 → Cur W (w.heap.size + 1) A c l 0 big true → Calls Try.prog F (#[.pointer (some ⟨w.heap.size + 1, 0, none⟩)] ++ cap) W (fun e w' => e = .panicked [ent t false] ∧ w' = W)) :
    Calls Try.prog 15 #[.slice A l.length c, .bool big, .func (.func F) #[] cap] w (fun e w' => e = .panicked [ent t false, ent t true] ∧ Below w.heap.size w w') := by
  have hmf : ∀ (fn : Fn) (first cap : Array Value) (w : World), (Instr.makeFunc fn first cap).run Try.prog w = .ok (.func fn first cap) w := fun _ _ _ _ => rfl
  have hne : ∀ W : World, (binOp .eql 32 (.func (.func F) #[] cap) .nilFunc).run Try.prog W = .ok (.bool false) W := fun W => by kernel_rfl
  have HR := Go.Lib.hid hr
  have HC := Go.Lib.hid hread
  clear hr hread
  go_enter_defers Try.func15, Try.ntmps15
  have HW : Hid (∃ W, W = (((w.alloc (.cells #[.int .i64 0] 28)).alloc (.cells #[.slice A l.length c, .int .i64 0, .bool big, .bool true] 55)).alloc (.cells #[.pointer (some ⟨w.heap.size + 1, 0, none⟩)] 30))) := ⟨_, rfl⟩
  go_wp2_with fail
  obtain ⟨W, hW⟩ := HW.out
  rw [← hW]
  have hB : Below w.heap.size w W := by
    rw [hW]
    exact ((((Below.refl _ _).alloc (Nat.le_refl _) _).alloc (by simp) _).alloc (by simp; omega) _)
  have hsz : W.heap.size = w.heap.size + 3 := by rw [hW]; simp
  have hbr : W.heap[w.heap.size]? = some (.cells #[.int .i64 0] 28 (0, 0)) := by
    rw [hW, Below.heap_alloc _ _ _ (by simp; omega), Below.heap_alloc _ _ _ (by simp), heap_alloc_new]
  have hbp : W.heap[w.heap.size + 1]? = some (.cells #[.slice A l.length c, .int .i64 0, .bool big, .bool true] 55 (0, 0)) := by
    rw [hW, Below.heap_alloc _ _ _ (by simp)]
    have := heap_alloc_new (w.alloc (.cells #[.int .i64 0] 28)) (.cells #[.slice A l.length c, .int .i64 0, .bool big, .bool true] 55)
    simpa using this
  have hbv : W.heap[w.heap.size + 2]? = some (.cells #[.pointer (some ⟨w.heap.size + 1, 0, none⟩)] 30 (0, 0)) := by
    rw [hW]
    have := heap_alloc_new ((w.alloc (.cells #[.int .i64 0] 28)).alloc (.cells #[.slice A l.length c, .int .i64 0, .bool big, .bool true] 55)) (.cells #[.pointer (some ⟨w.heap.size + 1, 0, none⟩)] 30)
    simpa using this
  clear hW
  refine (HC.out W hB hsz ⟨hbp, HR.out.below hB, ?_⟩).mono ?_
  · intro a ha h0
    obtain ⟨b, o, e, hc⟩ := HR.out.at_ h0
    cases ha.symm.trans e
    have := World.block_lt_of_cell? w _ hc
    simp at this ⊢
    omega
  rintro e w2 ⟨rfl, rfl⟩
  have HP := Go.Lib.hid hbp
  have HV := Go.Lib.hid hbv
  have HB := Go.Lib.hid hB
  clear hbr hbp hbv hB
  dsimp only
  refine leaves_cons (f := 39) (args := #[.pointer (some ⟨w.heap.size + 1 + 1, 0, none⟩), .pointer (some ⟨w.heap.size, 0, none⟩)]) (by simp) (by simp [go_sem]) ?_
  refine (catch_other (w.heap.size + 1) (w.heap.size + 2) w.heap.size t _ A l.length c 0 big true HP.out (cell_of_heap HV.out 0)).mono ?_
  rintro e u' w3 ⟨rfl, rfl, rfl⟩
  simp only [Leaves, raised]
  refine ⟨rfl, (((HB.out.setCell (p := ⟨w.heap.size + 1, 3, none⟩) (by simp) _).setCell (p := ⟨w.heap.size + 1, 0, none⟩) (by simp) _).alloc (by simp; omega) _)⟩

theorem goes2 (p b3 : Nat) (t : ByteArray) (W : World) (hv : Var W b3 (.string t) 9) :
    Calls Try.prog 35 #[.pointer (some ⟨p, 0, none⟩), .pointer (some ⟨b3, 0, none⟩)] W fun e w' => e = .panicked [ent t false] ∧ w' = W := by
  have hc := hv.cell
  clear hv
  go_enter Try.func35, Try.ntmps35
  go_wp2
  exact ⟨rfl, rfl, rfl⟩

set_option maxHeartbeats 1600000 in
theorem goes1 (b3 b4 : Nat) (t : ByteArray) (w : World) (h3 : Var w b3 (.string t) 9) (h4 : Var w b4 (.bool false) 4) :
    CallsD Try.prog 34 #[.pointer (some ⟨b3, 0, none⟩), .pointer (some ⟨b4, 0, none⟩)] (.panicking [ent t false, ent t true]) w fun e u' w' =>
      e = .returned (.tuple #[]) ∧ u' = .panicking [ent t true, ent t true] ∧ w' = w.setCell ⟨b4, 0, none⟩ (.bool true) := by
  have hc3 := h3.cell
  have hc4 := h4.cell
  have hf4 := h4.fz
  clear h3 h4
  have hta : ∀ W : World, (Instr.typeAssert (.iface 9 (.string t)) 20 9 true).run Try.prog W = .ok (.tuple #[.string t, .bool true]) W := fun W => by kernel_rfl
  refine callsD_of_wpS Try.func34 rfl fun c₀ cs hu => ?_
  rw [Try.ntmps34]
  rw [show (#[.pointer (some ⟨b3, 0, none⟩), .pointer (some ⟨b4, 0, none⟩)] ++ Array.replicate (17 - (#[.pointer (some ⟨b3, 0, none⟩), .pointer (some ⟨b4, 0, none⟩)] : Array Value).size) undef : Array Value) = #[.pointer (some ⟨b3, 0, none⟩), .pointer (some ⟨b4, 0, none⟩), undef, undef, undef, undef, undef, undef, undef, undef, undef, undef, undef, undef, undef, undef, undef] from by kernel_rfl]
  refine wpS_seq_k fun K hK => ?_
  refine wpS_recover 5 2 (txt t) ({ c₀ with mode := .panicking [ent t true, ent t true] } :: cs) rfl rfl rfl rfl rfl rfl (by simp) (.inl (by simp [recoverD, hu, ent])) ?_
  refine hK _ _ _ ?_
  clear hK K
  unfold txt
  refine wpS_of_wp ?_
  go_wp2
  simp_all [bodyPostS, ent, txt, results, Try.results34]

theorem goes_try (A : Option Addr) (c : Nat) (l : List UInt8) (b3 : Nat) (t : ByteArray) (w : World) (hr : Rd w A c l) (hv : Var w b3 (.string t) 9) :
    Calls Try.prog 15 #[.slice A l.length c, .bool false, .func (.func 35) #[] #[.pointer (some ⟨b3, 0, none⟩)]] w (fun e w' => e = .panicked [ent t false, ent t true] ∧ Below w.heap.size w w') := by
  refine try_other A c l false 35 #[.pointer (some ⟨b3, 0, none⟩)] w t hr (fun _ _ => rfl) ?_
  intro W hB hsz hc
  exact goes2 _ _ t W (hv.below hB hv.lt)

set_option maxHeartbeats 1600000 in
theorem goes_any (A : Option Addr) (c : Nat) (l : List UInt8) (t : ByteArray) (w : World) (hr : Rd w A c l) (hl : l.length ≤ 4000) :
    Calls Try.prog 11 #[.slice A l.length c, .string t] w (RetTrue w) := by
  have HR := Go.Lib.hid hr
  have HB := Go.Lib.hid (Below.refl w.heap.size w)
  have st0 : True := trivial
  have hmf : ∀ (fn : Fn) (first cap : Array Value) (w : World), (Instr.makeFunc fn first cap).run Try.prog w = .ok (.func fn first cap) w := fun _ _ _ _ => rfl
  clear hr
  go_enter_defers Try.func11, Try.ntmps11
  go_wp2_with (first
    | (go_at_call 12; have t_ := st0; clear t_; go_must (refine (own_any _ _ l _ (HR.out.below (below_alloc1 (below_alloc1 HB.out))) (by omega)).mono ?_); go_must (rintro e w1 ⟨v1, rfl, ho1, hb1⟩; obtain ⟨A1, c1, rfl, hr1⟩ := ho1.rd; have HR1 := Go.Lib.hid hr1; have V3 := Go.Lib.hid (Var.of ((Var.new' w (.string t) 9 rfl).alloc _) (hb1.block w.heap.size (by simp <;> omega))); have V4 := Go.Lib.hid (Var.of (Var.new' (w.alloc (.cells #[.string t] 9)) (.bool false) 4 (by simp)) (hb1.block (w.heap.size + 1) (by simp <;> omega))); have n_ := Go.Lib.hid (Below.step (below_alloc1 (below_alloc1 HB.out)) hb1); clear HB ho1 hr1 hb1; have HB := n_; clear n_ st0; have st1 : True := trivial)))
  refine (goes_try A1 c1 l _ t w1 HR1.out V3.out).mono ?_
  rintro e w2 ⟨rfl, hb2⟩
  have n3 := Go.Lib.hid (V3.out.below hb2 V3.out.lt)
  have n4 := Go.Lib.hid (V4.out.below hb2 V4.out.lt)
  have n_ := Go.Lib.hid (Below.step HB.out hb2)
  clear HB HR1 V3 V4 hb2 st1
  have HB := n_
  dsimp only
  refine leaves_cons (f := 34) (args := #[.pointer (some ⟨w.heap.size, 0, none⟩), .pointer (some ⟨w.heap.size + 1, 0, none⟩)]) (by simp) (by simp [go_sem]) ?_
  refine (goes1 _ _ t _ n3.out n4.out).mono ?_
  rintro e u' w3 ⟨rfl, rfl, rfl⟩
  have hres : (w2.setCell ⟨w.heap.size + 1, 0, none⟩ (.bool true)).cell? ⟨w.heap.size + 1, 0, none⟩ = some (.bool true) := (n4.out.set _).cell
  simp only [Leaves, settle, ent]
  refine ⟨.bool true, ?_, rfl, HB.out.setCell (p := ⟨w.heap.size + 1, 0, none⟩) (by simp) _⟩
  simp [results, Try.results11, go_sem, hres]

set_option maxHeartbeats 1600000 in
theorem cursorOthers_walk (A0 : Option Addr) (c0 : Nat) (lb : List UInt8) (t : ByteArray) (w : World) (ha : Rd w A0 c0 lb) (ht : t.size ≤ maxLen) :
    Calls Try.prog 3 #[.slice A0 lb.length c0, .string t] w (RetTrue w) := by
  have hla := ha.len
  have HRb := Go.Lib.hid ha
  have HB := Go.Lib.hid (Below.refl w.heap.size w)
  clear ha ht
  by_cases h1 : lb.length ≤ 4000
  · go_enter Try.func3, Try.ntmps3
    go_wp2_with (first
      | (go_at_call 11; go_must (refine (goes_any _ _ lb t _ HRb.out h1).mono ?_); rintro e w1 ⟨rfl, hb1⟩; have n_ := Go.Lib.hid (Below.step HB.out hb1); clear HB hb1; have HB := n_; clear n_)
      | (go_at_call 10; go_must (refine (awake_any _).mono ?_); rintro e w1 ⟨rfl, hb1⟩; have n_ := Go.Lib.hid (Below.step HB.out hb1); clear HB hb1; have HB := n_; clear n_))
    go_ret
    exact ⟨rfl, HB.out⟩
  · (go_enter Try.func3, Try.ntmps3; go_wp2_with (go_at_call 10; refine (awake_any _).mono ?_; rintro e w' ⟨rfl, hb⟩); go_ret; exact ⟨rfl, hb⟩)
end Go.Proofs.Ytkhjgmcndieecaa

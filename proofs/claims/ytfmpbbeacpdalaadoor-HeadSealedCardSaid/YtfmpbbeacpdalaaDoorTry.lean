/-
  The walks of cursor.Try: its deferred closure, and Try itself over whatever reader.
-/
import Derived.Test.YtfmpbbeacpdalaaDoorBytes
set_option linter.unusedVariables false
set_option linter.unusedSimpArgs false
namespace Go.Proofs.YtfmpbbeacpdalaaDoor
open Go.RowKit


theorem wpS_seq_k {P : Program} {Q : Exit → Act → List Frame → World → Prop} {a : Act} {cs : List Frame} {w : World} {x y : Code}
    (h : ∀ K : Act → List Frame → World → Prop, (∀ a cs w, y.wpS P Q a cs w → K a cs w) → x.wpS P (Exit.thenS K Q) a cs w) : (Code.seq x y).wpS P Q a cs w := wpS_seq (h _ fun _ _ _ h => h)

/-- A region that recovers, and keeps what it recovered. -/
theorem wpS_recover {P : Program} {id : Nat} {o1 o2 : Oper} {Q : Exit → Act → List Frame → World → Prop} {a : Act} {cs : List Frame} {w : World} (d e : Tmp) (v : Value) (cs' : List Frame)
    (h1 : o1.op = .call { callee := .builtin .recover, args := #[], argTypes := #[] }) (g1 : o1.guard = none) (d1 : o1.dst = some d) (h2 : o2.op = .assign (.tmp d)) (g2 : o2.guard = none) (d2 : o2.dst = some e) (hd : d < a.tmps.size)
    (hr : recoverD cs = some (v, cs') ∨ recoverD cs = none ∧ v = .nilIface ∧ cs' = cs)
    (h : Q .normal ((a.put (some d) v).put (some e) v) cs' w) : (Code.region id #[o1, o2] false).wpS P Q a cs w := by
  apply wpS_region
  have e1 : (execOp a.eval o1).run P w = .ok .recover w := by
    unfold execOp
    simp only [h1]
    rfl
  have k : wpOpsS P #[o1, o2] Q [1] (a.put (some d) v) cs' w := by
    have e2 : (execOp (a.put (some d) v).eval o2).run P w = .ok (.value v) w := by
      unfold execOp
      simp only [h2]
      simp [Act.eval, Act.put, Sem.run, Array.getD, hd]
    simp only [wpOpsS]
    simp [Region.wanted, g2, e2, Oper.upon, d2]
    exact h
  show wpOpsS P #[o1, o2] Q [0, 1] a cs w
  rw [wpOpsS]
  simp only [List.getElem?_toArray, List.getElem?_cons_zero]
  simp only [Region.wanted, g1, e1, d1]
  rcases hr with hr | ⟨hr, rfl, rfl⟩
  · simp only [hr, if_true]
    exact k
  · simp only [hr, if_true]
    exact k

set_option maxHeartbeats 1600000 in
theorem catch_idle (p v r : Nat) (w : World) (A : Option Addr) (n c : Nat) (at_ : Int) (big live : Bool) (hp : w.heap[p]? = some (.cells #[.slice A n c, .int .i64 at_, .bool big, .bool live] 65 (0, 0))) (hv : w.cell? ⟨v, 0, none⟩ = some (.pointer (some ⟨p, 0, none⟩))) :
    CallsD Tryd.prog 45 #[.pointer (some ⟨v, 0, none⟩), .pointer (some ⟨r, 0, none⟩)] .returning w fun e u' w' =>
      e = .returned (.tuple #[]) ∧ u' = .returning ∧ w' = (w.setCell ⟨p, 3, none⟩ (.bool false)).setCell ⟨p, 0, none⟩ (.slice none 0 0) := by
  have h0 := (cell_of_heap hp 0)
  have h3 := (cell_of_heap hp 3)
  have f0 := (frozen_of_heap hp 0)
  have f3 := (frozen_of_heap hp 3)
  simp at h0 h3
  refine callsD_of_wpS Tryd.func45 rfl fun c₀ cs hu => ?_
  rw [Tryd.ntmps45]
  rw [show (#[.pointer (some ⟨v, 0, none⟩), .pointer (some ⟨r, 0, none⟩)] ++ Array.replicate (24 - (#[.pointer (some ⟨v, 0, none⟩), .pointer (some ⟨r, 0, none⟩)] : Array Value).size) undef : Array Value) = #[.pointer (some ⟨v, 0, none⟩), .pointer (some ⟨r, 0, none⟩), undef, undef, undef, undef, undef, undef, undef, undef, undef, undef, undef, undef, undef, undef, undef, undef, undef, undef, undef, undef, undef, undef] from by kernel_rfl]
  refine wpS_seq_k fun K hK => ?_
  apply wpS_of_wp
  go_wp2
  refine hK _ _ _ ?_
  clear hK K
  refine wpS_seq_k fun K hK => ?_
  refine wpS_recover 11 2 .nilIface (c₀ :: cs) rfl rfl rfl rfl rfl rfl (by simp) (.inr ⟨by simp [recoverD, hu], rfl, rfl⟩) ?_
  refine hK _ _ _ ?_
  clear hK K
  refine wpS_of_wp ?_
  go_wp2
  cases c₀
  simp_all [bodyPostS, results, Tryd.results45]
set_option maxHeartbeats 1600000 in
theorem catch_gave (p v r : Nat) (k x : Int) (w : World) (hr : w.cell? ⟨r, 0, none⟩ = some (.int .i64 x)) (hrf : w.frozen? ⟨r, 0, none⟩ = false) (hpr : p ≠ r) (A : Option Addr) (n c : Nat) (at_ : Int) (big live : Bool) (hp : w.heap[p]? = some (.cells #[.slice A n c, .int .i64 at_, .bool big, .bool live] 65 (0, 0))) (hv : w.cell? ⟨v, 0, none⟩ = some (.pointer (some ⟨p, 0, none⟩))) :
    CallsD Tryd.prog 45 #[.pointer (some ⟨v, 0, none⟩), .pointer (some ⟨r, 0, none⟩)] (.panicking (gave k)) w fun e u' w' =>
      e = .returned (.tuple #[]) ∧ u' = .panicking [{ v := .iface 67 (.agg #[.int .i64 k]), recovered := true }] ∧ w' = (((w.setCell ⟨p, 3, none⟩ (.bool false)).setCell ⟨p, 0, none⟩ (.slice none 0 0)).setCell ⟨r, 0, none⟩ (.int .i64 k)).alloc (.cells #[.int .i64 k] 67) := by
  have h0 := (cell_of_heap hp 0)
  have h3 := (cell_of_heap hp 3)
  have f0 := (frozen_of_heap hp 0)
  have f3 := (frozen_of_heap hp 3)
  simp at h0 h3
  have hta : ∀ W : World, (Instr.typeAssert (.iface 67 (.agg #[.int .i64 k])) 20 67 true).run Tryd.prog W = .ok (.tuple #[.agg #[.int .i64 k], .bool true]) W := fun W => by kernel_rfl
  have hrp : ∀ k : Nat, (⟨p, k, none⟩ : Addr) ≠ ⟨r, 0, none⟩ := fun _ e => hpr (by injection e)
  have hlt := World.block_lt_of_cell? w _ hr
  have hcr : (((w.setCell ⟨p, 3, none⟩ (.bool false)).setCell ⟨p, 0, none⟩ (.slice none 0 0)).alloc (.cells #[.int .i64 k] 67)).cell? ⟨r, 0, none⟩ = some (.int .i64 x) := by
    rw [World.cell?_alloc_lt (h := by simpa using hlt), World.cell?_setCell_other (h := hrp 0), World.cell?_setCell_other (h := hrp 3)]
    exact hr
  have hfr : (((w.setCell ⟨p, 3, none⟩ (.bool false)).setCell ⟨p, 0, none⟩ (.slice none 0 0)).alloc (.cells #[.int .i64 k] 67)).frozen? ⟨r, 0, none⟩ = false := by
    rw [World.frozen?_alloc_old (h := Nat.ne_of_lt (by simpa using hlt)), World.frozen?_setCell, World.frozen?_setCell]
    exact hrf
  refine callsD_of_wpS Tryd.func45 rfl fun c₀ cs hu => ?_
  rw [Tryd.ntmps45]
  rw [show (#[.pointer (some ⟨v, 0, none⟩), .pointer (some ⟨r, 0, none⟩)] ++ Array.replicate (24 - (#[.pointer (some ⟨v, 0, none⟩), .pointer (some ⟨r, 0, none⟩)] : Array Value).size) undef : Array Value) = #[.pointer (some ⟨v, 0, none⟩), .pointer (some ⟨r, 0, none⟩), undef, undef, undef, undef, undef, undef, undef, undef, undef, undef, undef, undef, undef, undef, undef, undef, undef, undef, undef, undef, undef, undef] from by kernel_rfl]
  refine wpS_seq_k fun K hK => ?_
  apply wpS_of_wp
  go_wp2
  refine hK _ _ _ ?_
  clear hK K
  refine wpS_seq_k fun K hK => ?_
  refine wpS_recover 11 2 (.iface 67 (.agg #[.int .i64 k])) ({ c₀ with mode := .panicking [{ v := .iface 67 (.agg #[.int .i64 k]), recovered := true }] } :: cs) rfl rfl rfl rfl rfl rfl (by simp) (.inl (by simp [recoverD, hu, gave])) ?_
  refine hK _ _ _ ?_
  clear hK K
  refine wpS_of_wp ?_
  go_wp2
  simp_all [bodyPostS, results, Tryd.results45]

/-- What a reader may do: it reads by the cursor in block p, and writes no other block that Try made. -/
def Read (w0 : World) (p : Nat) (S : Except Int Unit → World → Prop) (W : World) (e : Ending) (w' : World) : Prop :=
  W.heap.size ≤ w'.heap.size ∧ (∀ i, i < W.heap.size → w0.heap.size ≤ i → i ≠ p → w'.heap[i]? = W.heap[i]?) ∧
  (∃ A n c, ∃ at_ : Int, ∃ big live, w'.heap[p]? = some (.cells #[.slice A n c, .int .i64 at_, .bool big, .bool live] 65 (0, 0))) ∧
  ((e = .returned (.tuple #[]) ∧ S (.ok ()) w') ∨ ∃ k : Int, k ≠ 0 ∧ e = .panicked (gave k) ∧ S (.error k) w')

/-- What a world is behind Try, where the reader left w2: nothing but the three blocks that Try made has changed. -/
structure Tail (w0 w2 w' : World) : Prop where
  os : w'.os = w2.os
  tape : w'.tape = w2.tape
  output : w'.output = w2.output
  size : w2.heap.size ≤ w'.heap.size
  block : ∀ i, i < w2.heap.size → (i < w0.heap.size ∨ w0.heap.size + 3 ≤ i) → w'.heap[i]? = w2.heap[i]?
  dead : w'.cell? ⟨w0.heap.size + 1, 3, none⟩ = some (.bool false)

def code : Except Int Unit → Int
  | .ok _ => 0
  | .error k => k
def Tried (w0 : World) (S : Except Int Unit → World → Prop) (e : Ending) (w' : World) : Prop :=
  ∃ o w2, S o w2 ∧ e = .returned (.int .i64 (code o)) ∧ Tail w0 w2 w'

set_option maxHeartbeats 1600000 in
theorem try_any (A : Option Addr) (c : Nat) (l : List UInt8) (big : Bool) (F : FuncId) (cap : Array Value) (w : World) (S : Except Int Unit → World → Prop) (hr : Rd w A c l)
    (hF : ∀ (args : Array Value) (W : World), (callFunc F args).run Tryd.prog W = .ok (.enter F args) W)
    (hread : ∀ W, Below w.heap.size w W → W.heap.size = w.heap.size + 3 → Cur W (w.heap.size + 1) A c l 0 big true → Calls Tryd.prog F (#[.pointer (some ⟨w.heap.size + 1, 0, none⟩)] ++ cap) W (Read w (w.heap.size + 1) S W)) :
    Calls Tryd.prog 30 #[.slice A l.length c, .bool big, .func (.func F) #[] cap] w (Tried w S) := by
  have hmf : ∀ (fn : Fn) (first cap : Array Value) (w : World), (Instr.makeFunc fn first cap).run Tryd.prog w = .ok (.func fn first cap) w := fun _ _ _ _ => rfl
  have hne : ∀ W : World, (binOp .eql 50 (.func (.func F) #[] cap) .nilFunc).run Tryd.prog W = .ok (.bool false) W := fun W => by kernel_rfl
  have HR := Go.Lib.hid hr
  have HC := Go.Lib.hid hread
  clear hr hread
  go_enter_defers Tryd.func30, Tryd.ntmps30
  have HW : Hid (∃ W, W = (((w.alloc (.cells #[.int .i64 0] 25)).alloc (.cells #[.slice A l.length c, .int .i64 0, .bool big, .bool true] 65)).alloc (.cells #[.pointer (some ⟨w.heap.size + 1, 0, none⟩)] 48))) := ⟨_, rfl⟩
  go_wp2_with fail
  obtain ⟨W, hW⟩ := HW.out
  rw [← hW]
  have hB : Below w.heap.size w W := by
    rw [hW]
    exact ((((Below.refl _ _).alloc (Nat.le_refl _) _).alloc (by simp) _).alloc (by simp; omega) _)
  have hsz : W.heap.size = w.heap.size + 3 := by rw [hW]; simp
  have hbr : W.heap[w.heap.size]? = some (.cells #[.int .i64 0] 25 (0, 0)) := by
    rw [hW, Below.heap_alloc _ _ _ (by simp; omega), Below.heap_alloc _ _ _ (by simp), heap_alloc_new]
  have hbp : W.heap[w.heap.size + 1]? = some (.cells #[.slice A l.length c, .int .i64 0, .bool big, .bool true] 65 (0, 0)) := by
    rw [hW, Below.heap_alloc _ _ _ (by simp)]
    have := heap_alloc_new (w.alloc (.cells #[.int .i64 0] 25)) (.cells #[.slice A l.length c, .int .i64 0, .bool big, .bool true] 65)
    simpa using this
  have hbv : W.heap[w.heap.size + 2]? = some (.cells #[.pointer (some ⟨w.heap.size + 1, 0, none⟩)] 48 (0, 0)) := by
    rw [hW]
    have := heap_alloc_new ((w.alloc (.cells #[.int .i64 0] 25)).alloc (.cells #[.slice A l.length c, .int .i64 0, .bool big, .bool true] 65)) (.cells #[.pointer (some ⟨w.heap.size + 1, 0, none⟩)] 48)
    simpa using this
  clear hW
  refine (HC.out W hB hsz ⟨hbp, HR.out.below hB, ?_⟩).mono ?_
  · intro a ha h0
    obtain ⟨b, o, e, hc⟩ := HR.out.at_ h0
    cases ha.symm.trans e
    have := World.block_lt_of_cell? w _ hc
    simp at this ⊢
    omega
  rintro e w2 ⟨hs2, hk2, ⟨A2, n2, c2, at2, b2, l2, hp2⟩, he⟩
  have hr2 : w2.heap[w.heap.size]? = some (.cells #[.int .i64 0] 25 (0, 0)) := (hk2 _ (by omega) (Nat.le_refl _) (by omega)).trans hbr
  have hv2 : w2.heap[w.heap.size + 2]? = some (.cells #[.pointer (some ⟨w.heap.size + 1, 0, none⟩)] 48 (0, 0)) := (hk2 _ (by omega) (by omega) (by omega)).trans hbv
  have HP := Go.Lib.hid hp2
  have HV := Go.Lib.hid hv2
  have HRR := Go.Lib.hid hr2
  have cr := cell_of_heap hr2 0
  have fr := frozen_of_heap hr2 0
  rcases he with ⟨rfl, hS⟩ | ⟨k, hk0, rfl, hS⟩
  · have hne1 : ∀ k : Nat, (⟨w.heap.size, 0, none⟩ : Addr) ≠ ⟨w.heap.size + 2, k, none⟩ := fun _ e => by injection e; omega
    have hs3 : (w2.setCell ⟨w.heap.size, 0, none⟩ (.int .i64 0)).heap[w.heap.size + 1]? = some (.cells #[.slice A2 n2 c2, .int .i64 at2, .bool b2, .bool l2] 65 (0, 0)) := (heap_setCell_other w2 _ _ _ (by simp)).trans HP.out
    have hs4 : (w2.setCell ⟨w.heap.size, 0, none⟩ (.int .i64 0)).cell? ⟨w.heap.size + 2, 0, none⟩ = some (.pointer (some ⟨w.heap.size + 1, 0, none⟩)) := (World.cell?_setCell_other _ _ _ _ (hne1 0)).trans (cell_of_heap HV.out 0)
    have HS3 := Go.Lib.hid hs3
    have HS4 := Go.Lib.hid hs4
    have HS := Go.Lib.hid hS
    clear hs3 hs4 hS hk2 hp2 hv2 hr2 hbr hbp hbv
    dsimp only
    go_wp2
    refine leaves_cons (f := 45) (args := #[.pointer (some ⟨w.heap.size + 1 + 1, 0, none⟩), .pointer (some ⟨w.heap.size, 0, none⟩)]) (by simp) (by simp [go_sem]) ?_
    refine (catch_idle (w.heap.size + 1) (w.heap.size + 2) w.heap.size _ A2 n2 c2 at2 b2 l2 HS3.out HS4.out).mono ?_
    rintro e u' w3 ⟨rfl, rfl, rfl⟩
    have hres : ((((w2.setCell ⟨w.heap.size, 0, none⟩ (.int .i64 0)).setCell ⟨w.heap.size + 1, 3, none⟩ (.bool false)).setCell ⟨w.heap.size + 1, 0, none⟩ (.slice none 0 0)).cell? ⟨w.heap.size, 0, none⟩) = some (.int .i64 0) := by
      rw [World.cell?_setCell_other _ _ _ _ (fun e => by injection e; omega), World.cell?_setCell_other _ _ _ _ (fun e => by injection e; omega)]
      exact World.cell?_setCell_same _ _ _ cr
    simp [Leaves, settle, results, Tryd.results30, go_sem, hres]
    refine ⟨.ok (), w2, HS.out, rfl, ?_⟩
    refine ⟨rfl, rfl, rfl, by simp, ?_, ?_⟩
    · intro i _ hi
      rw [heap_setCell_other _ _ _ _ (by simp; omega), heap_setCell_other _ _ _ _ (by simp; omega), heap_setCell_other _ _ _ _ (by simp; omega)]
    · rw [World.cell?_setCell_other _ _ _ _ (fun e => by injection e; omega)]
      exact World.cell?_setCell_same _ _ _ (cell_of_heap HS3.out 3)
  · have HS := Go.Lib.hid hS
    have hsz2 : w.heap.size + 3 ≤ w2.heap.size := by omega
    clear hS hk2 hp2 hv2 hr2 hbr hbp hbv
    dsimp only
    refine leaves_cons (f := 45) (args := #[.pointer (some ⟨w.heap.size + 1 + 1, 0, none⟩), .pointer (some ⟨w.heap.size, 0, none⟩)]) (by simp) (by simp [go_sem]) ?_
    refine (catch_gave (w.heap.size + 1) (w.heap.size + 2) w.heap.size k 0 _ cr fr (by omega) A2 n2 c2 at2 b2 l2 HP.out (cell_of_heap HV.out 0)).mono ?_
    rintro e u' w3 ⟨rfl, rfl, rfl⟩
    have hres : (((((w2.setCell ⟨w.heap.size + 1, 3, none⟩ (.bool false)).setCell ⟨w.heap.size + 1, 0, none⟩ (.slice none 0 0)).setCell ⟨w.heap.size, 0, none⟩ (.int .i64 k)).alloc (.cells #[.int .i64 k] 67)).cell? ⟨w.heap.size, 0, none⟩) = some (.int .i64 k) := by
      rw [World.cell?_alloc_lt _ _ _ (by simp; omega)]
      refine World.cell?_setCell_same _ _ _ (u := .int .i64 0) ?_
      rw [World.cell?_setCell_other _ _ _ _ (fun e => by injection e; omega), World.cell?_setCell_other _ _ _ _ (fun e => by injection e; omega)]
      exact cr
    simp [Leaves, settle, results, Tryd.results30, go_sem, hres]
    refine ⟨.error k, w2, HS.out, rfl, ?_⟩
    refine ⟨rfl, rfl, rfl, by simp, ?_, ?_⟩
    · intro i hi2 hi
      rw [Below.heap_alloc _ _ _ (by simpa using hi2), heap_setCell_other _ _ _ _ (by simp; omega), heap_setCell_other _ _ _ _ (by simp; omega), heap_setCell_other _ _ _ _ (by simp; omega)]
    · rw [World.cell?_alloc_lt _ _ _ (by simp; omega), World.cell?_setCell_other _ _ _ _ (fun e => by injection e; omega), World.cell?_setCell_other _ _ _ _ (fun e => by injection e; omega)]
      exact World.cell?_setCell_same _ _ _ (cell_of_heap HP.out 3)
end Go.Proofs.YtfmpbbeacpdalaaDoor

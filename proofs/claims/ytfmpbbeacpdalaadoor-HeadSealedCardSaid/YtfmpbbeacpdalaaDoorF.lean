/-
  What a world keeps: changes that touch certain blocks alone; facts carried over them.
-/
import Derived.Test.YtfmpbbeacpdalaaDoorEops
set_option linter.unusedVariables false
set_option linter.unusedSimpArgs false
namespace Go.Proofs.YtfmpbbeacpdalaaDoor
open Go.RowKit


/-- Of the blocks that were there, none but those of M has changed. -/
structure Chg (M : Nat → Prop) (w w' : World) : Prop where
  os : w'.os = w.os
  tape : w'.tape = w.tape
  output : w'.output = w.output
  size : w.heap.size ≤ w'.heap.size
  block : ∀ k, k < w.heap.size → ¬ M k → w'.heap[k]? = w.heap[k]?

section
variable {M M' : Nat → Prop} {w w' w'' : World}

theorem Chg.refl (M : Nat → Prop) (w : World) : Chg M w w := ⟨rfl, rfl, rfl, Nat.le_refl _, fun _ _ _ => rfl⟩
theorem Chg.trans (h : Chg M w w') (k : Chg M w' w'') : Chg M w w'' :=
  ⟨k.os.trans h.os, k.tape.trans h.tape, k.output.trans h.output, Nat.le_trans h.size k.size, fun i hi hm => (k.block i (Nat.lt_of_lt_of_le hi h.size) hm).trans (h.block i hi hm)⟩
theorem Chg.mono (h : Chg M w w') (hm : ∀ k, k < w.heap.size → M k → M' k) : Chg M' w w' := ⟨h.os, h.tape, h.output, h.size, fun i hi hn => h.block i hi fun e => hn (hm i hi e)⟩
theorem Chg.step (h : Chg M w w') (e : Chg M' w' w'') (hm : ∀ k, k < w.heap.size → M' k → M k) : Chg M w w'' :=
  ⟨e.os.trans h.os, e.tape.trans h.tape, e.output.trans h.output, Nat.le_trans h.size e.size, fun i hi hn => (e.block i (Nat.lt_of_lt_of_le hi h.size) (fun x => hn (hm i hi x))).trans (h.block i hi hn)⟩
theorem Chg.of_below {B : Nat} (h : Below B w w') : Chg (fun k => B ≤ k) w w' := ⟨h.os, h.tape, h.output, h.size, fun i _ hn => h.block i (Nat.lt_of_not_le hn)⟩
theorem Chg.of_new (h : Below w.heap.size w w') : Chg (fun _ => False) w w' := ⟨h.os, h.tape, h.output, h.size, fun i hi _ => h.block i hi⟩
theorem Chg.of_row {row : Option Nat} (h : w.grownBy w' row) : Chg (fun k => some k = row) w w' := ⟨h.os, h.tape, h.output, h.size, fun i hi hn => h.block i hi hn⟩
theorem Chg.below {B : Nat} (h : Chg M w w') (hB : B ≤ w.heap.size) (hm : ∀ k, k < B → ¬ M k) : Below B w w' := ⟨h.os, h.tape, h.output, h.size, fun i hi => h.block i (by omega) (hm i hi)⟩
theorem Chg.new (h : Chg (fun _ => False) w w') : Below w.heap.size w w' := ⟨h.os, h.tape, h.output, h.size, fun i hi => h.block i hi (fun x => x)⟩
theorem Chg.obj {p : Nat} {o : Obj} (h : Chg M w w') (hp : ¬ M p) (ho : w.heap[p]? = some o) : w'.heap[p]? = some o := (h.block p (Array.getElem?_eq_some_iff.1 ho).1 hp).trans ho
theorem Chg.cell {b o : Nat} {v : Value} (h : Chg M w w') (hp : ¬ M b) (ho : w.cell? ⟨b, o, none⟩ = some v) : w'.cell? ⟨b, o, none⟩ = some v :=
  (World.cell?_of_block (w := w) (h.block b (World.block_lt_of_cell? w _ ho) hp)).trans ho
theorem Chg.range {b o : Nat} {cs : List Value} (h : Chg M w w') (hp : ¬ M b) (ho : w.rangeAt b o cs) : w'.rangeAt b o cs := fun j v hj => h.cell hp (ho j v hj)
theorem Chg.drew (w : World) : Chg (fun _ => False) w w.drew := ⟨rfl, rfl, rfl, Nat.le_refl _, fun _ _ _ => rfl⟩
theorem Chg.alloc (w : World) (o : Obj) : Chg (fun _ => False) w (w.alloc o) := ⟨rfl, rfl, rfl, by simp, fun k hk _ => Below.heap_alloc _ _ _ hk⟩
theorem Chg.setCell (w : World) (p o : Nat) (v : Value) : Chg (fun k => k = p) w (w.setCell ⟨p, o, none⟩ v) := ⟨rfl, rfl, rfl, by simp, fun k _ hk => heap_setCell_other w _ k _ hk⟩
theorem lt_obj {p : Nat} {o : Obj} (ho : w.heap[p]? = some o) : p < w.heap.size := (Array.getElem?_eq_some_iff.1 ho).1
theorem obj_new (w : World) (o : Obj) : (w.alloc o).heap[w.heap.size]? = some o := by
  show (w.heap.push o)[w.heap.size]? = _
  simp
theorem size_alloc (w : World) (o : Obj) : (w.alloc o).heap.size = w.heap.size + 1 := by
  show (w.heap.push o).size = _
  simp
theorem obj_setCell {p k : Nat} {v : Value} {cs : Array Value} {t : TypeId} (h : w.heap[p]? = some (.cells cs t (0, 0))) : (w.setCell ⟨p, k, none⟩ v).heap[p]? = some (.cells (cs.setIfInBounds k v) t (0, 0)) :=
  heap_setCell_same w p k _ _ _ h
theorem obj_cell {p : Nat} {cs : Array Value} {t : TypeId} {fr : Nat × Nat} (h : w.heap[p]? = some (.cells cs t fr)) (k : Nat) : w.cell? ⟨p, k, none⟩ = cs[k]? := by simp [World.cell?, h]
theorem obj_frozen {p : Nat} {cs : Array Value} {t : TypeId} (h : w.heap[p]? = some (.cells cs t (0, 0))) (k : Nat) : w.frozen? ⟨p, k, none⟩ = false := by simp [World.frozen?, h]
theorem obj_range {p : Nat} {cs : List Value} {t : TypeId} {fr : Nat × Nat} (h : w.heap[p]? = some (.cells cs.toArray t fr)) : w.rangeAt p 0 cs := fun j v hj => by
  rw [obj_cell h]
  simpa using hj

variable {A : Option Addr} {c : Nat} {l : List UInt8}

theorem Rd.lt (h : Rd w A c l) : ∀ a, A = some a → 0 < l.length → a.block < w.heap.size := fun a ha hl => by
  have := World.block_lt_of_cell? w _ (h.get 0 hl a ha)
  exact this
theorem Rd.chg {w0 : World} (h0 : Rd w0 A c l) (h : Rd w A c l) (hc : Chg M w w') (hm : ∀ k, k < w0.heap.size → ¬ M k) : Rd w' A c l :=
  ⟨h.le, h.max, h.nil, h.form, fun j hj a ha => hc.cell (hm _ (h0.lt a ha (by omega))) (h.get j hj a ha)⟩
end


/-- Slots whose value is another's, said otherwise. -/
theorem as_int {L : Env} {t : Nat} {k : IntKind} {a b : Int} (h : L.lookup t = some (.int k a)) (e : a = b) : L.lookup t = some (.int k b) := e ▸ h
theorem as_slice {L : Env} {t : Nat} {A : Option Addr} {n m c : Nat} (h : L.lookup t = some (.slice A n c)) (e : n = m) : L.lookup t = some (.slice A m c) := e ▸ h
theorem as_bool {L : Env} {t : Nat} {a b : Bool} (h : L.lookup t = some (.bool a)) (e : a = b) : L.lookup t = some (.bool b) := e ▸ h
section
variable {P : Program} {n : Nat} {L L' : Env} {w w' : World} {Q : Exit → Act → World → Prop} {os rest : List Oper}

theorem tx_gen {e : Exit} (h : ∀ w1, w1 = w → TX n L Q e w1) : TX n L Q e w := h w rfl
theorem tl_gen (h : ∀ w1, w1 = w → TL P os n L rest w1 Q) : TL P os n L rest w Q := h w rfl
variable {M : Nat → Prop} {l : Array Bool} {items : Plan} {i k : Nat} {o : Op} {ty : TypeId} {po : String} {af : Array Edge} {gd : Option (Nat × Bool)}

theorem td_gen (h : ∀ w1, w1 = w → TD P os n L (Chg M w1) k l items w1 Q) : TD P os n L (Chg M w) k l items w Q := h w rfl
theorem t_drawnC {id : Nat} (M : Nat → Prop) (k : Nat) (items : Plan) (hm : P.follows .mixedOrders = true) (hn : Region.noSelect os.toArray = true) (hb : Blind Q) (hp : planB os.toArray k (Array.replicate os.length false) items = true)
    (hi : items.at_ os = items.ops) (hl : items.len = os.length) (h : ∀ w1, Chg (fun _ => False) w w1 → w1.heap.size = w.heap.size → TD P os n L (Chg M w1) k (Array.replicate os.length false) items w1 Q) : T P n L (.region id os.toArray true) w Q :=
  t_drawn items hm hn hb hp hi hl (h _ (Chg.drew w) rfl)
theorem td_takeC {d : Nat} {v : Value} (hw : Want os L gd true) (hd : d < n) (h : ∀ w', Chg M w w' → Does P L o (some v) w' w') (kk : TD P os n ((d, v) :: L) (Chg M w) k (l.setIfInBounds i true) items w Q) :
    TD P os n L (Chg M w) k l (.take i { dst := some d, op := o, type := ty, pos := po, after := af, guard := gd } items) w Q := td_val hw hd (Chg.refl _ _) h kk
theorem td_skipC {d : Option Nat} (hw : Want os L gd false) (hd : d.all (fun t => (L.lookup t).isNone) = true) (kk : TD P os n L (Chg M w) k (l.setIfInBounds i true) items w Q) :
    TD P os n L (Chg M w) k l (.take i { dst := d, op := o, type := ty, pos := po, after := af, guard := gd } items) w Q := td_skip hw hd (Chg.refl _ _) kk
theorem td_skipUC {d : Nat} (hw : Want os L gd false) (hd : d < n) (kk : TD P os n ((d, undef) :: L) (Chg M w) k (l.setIfInBounds i true) items w Q) :
    TD P os n L (Chg M w) k l (.take i { dst := some d, op := o, type := ty, pos := po, after := af, guard := gd } items) w Q := td_skipU hw hd (Chg.refl _ _) kk
theorem td_idleC {d : Option Nat} (hw : Want os L gd false) (hd : d.all (fun t => decide (t < n)) = true) (kk : TD P os n (consd d undef L) (Chg M w) k (l.setIfInBounds i true) items w Q) :
    TW P os n L (Chg M w) k l i { dst := d, op := o, type := ty, pos := po, after := af, guard := gd } items w Q := td_idle hw hd (Chg.refl _ _) kk
theorem td_doesC {d : Nat} {v : Value} (hw : Want os L gd true) (hd : d < n) (h : Does P L o (some v) w w') (hc : Chg M w w') (kk : TD P os n ((d, v) :: L) (Chg M w') k (l.setIfInBounds i true) items w' Q) :
    TW P os n L (Chg M w) k l i { dst := some d, op := o, type := ty, pos := po, after := af, guard := gd } items w Q := td_does hw hd h (.inr hc) (fun _ h => hc.trans h) kk
theorem td_unitC (hw : Want os L gd true) (h : Does P L o none w w') (hc : Chg M w w') (kk : TD P os n L (Chg M w') k (l.setIfInBounds i true) items w' Q) :
    TW P os n L (Chg M w) k l i { dst := none, op := o, type := ty, pos := po, after := af, guard := gd } items w Q := td_unit hw h (.inr hc) (fun _ h => hc.trans h) kk
/-- The last store: whatever it changes. -/
theorem td_lastC (hw : Want os L gd true) (h : Does P L o none w w') (kk : TX n L Q .normal w') :
    TW P os n L (Chg M w) k l k { dst := none, op := o, type := ty, pos := po, after := af, guard := gd } .done w Q := td_unit (S' := Chg M w) hw h (.inl rfl) (fun _ h => h) (td_end kk)
theorem td_callC {d : Option Nat} {f : FuncId} {args : Array Value} {R : Ending → World → Prop} (hw : Want os L gd true) (hd : d.all (fun t => decide (t < n)) = true)
    (he : Enters P L o f args w) (hc : Calls P f args w R) (ret : ∀ v w', R (.returned v) w' → Chg M w w' ∧ TD P os n (consd d v L) (Chg M w') k (l.setIfInBounds i true) items w' Q)
    (pan : ∀ ch w', R (.panicked ch) w' → TX n L Q (.panic ch) w') (out : ∀ w', R .outgrown w' → False) : TW P os n L (Chg M w) k l i { dst := d, op := o, type := ty, pos := po, after := af, guard := gd } items w Q :=
  td_call hw hd he hc (fun v w' h => ⟨.inr (ret v w' h).1, td_more (fun _ h' => (ret v w' h).1.trans h') (ret v w' h).2⟩) pan out
end

/-- It returns, so. -/
def Ret (R : Value → World → Prop) : Ending → World → Prop
  | .returned v, w => R v w
  | _, _ => False
/-- It returns, or panics, so. -/
def Out (R : Value → World → Prop) (X : List PanicEntry → World → Prop) : Ending → World → Prop
  | .returned v, w => R v w
  | .panicked ch, w => X ch w
  | .outgrown, _ => False
theorem wrap_i64 {x : Int} (h1 : -9223372036854775808 ≤ x) (h2 : x ≤ 9223372036854775807) : IntKind.i64.wrap x = x := by
  rw [IntKind.wrap_i64]
  omega
theorem blind_then {K : Act → World → Prop} {Q : Exit → Act → World → Prop} (h : Blind Q) : Blind (Exit.then K Q) := fun c a d v w hq => h c a d v w hq
theorem blind_in {id : Nat} {Q : Exit → Act → World → Prop} (h : Blind Q) : Blind (Exit.inBlock id Q) := fun c a d v w hq => h c a d v w hq
theorem t_body {P : Program} {fn : Func} {R : Ending → World → Prop} {n : Nat} {L : Env} {c : Code} {w : World}
    (h : ∀ Q0 : Exit → Act → World → Prop, Blind Q0 → (∀ e a w, bodyPost P fn R e a w → Q0 e a w) → T P n L c w Q0) : T P n L c w (bodyPost P fn R) :=
  h _ (fun c a d v w hq => by
    cases d with
    | none => exact hq
    | some d => exact hq) (fun _ _ _ h => h)
def argsL (i : Nat) : List Value → Env
  | [] => []
  | v :: vs => (i, v) :: argsL (i + 1) vs
theorem look_argsL : ∀ (vs : List Value) (i t : Nat) (v : Value), (argsL i vs).lookup t = some v → i ≤ t ∧ vs[t - i]? = some v
  | [], i, t, v, h => by simp [argsL] at h
  | u :: vs, i, t, v, h => by
    simp only [argsL, List.lookup] at h
    split at h
    · rename_i he
      have : t = i := by simpa using he
      subst this
      simpa using h
    · obtain ⟨h1, h2⟩ := look_argsL vs (i + 1) t v h
      refine ⟨by omega, ?_⟩
      have e : t - i = (t - (i + 1)) + 1 := by omega
      rw [e]
      simpa using h2
theorem look_args {vs : List Value} {t : Nat} {v : Value} (h : (argsL 0 vs).lookup t = some v) : vs[t]? = some v := (look_argsL vs 0 t v h).2
theorem load_whole {P : Program} {t : TypeId} {cs : List Value} {b o : Nat} {w : World} (ht : rowT P t cs.length = true) (hc : w.rangeAt b o cs) : (loadVar t ⟨b, o, none⟩).run P w = .ok (.agg cs.toArray) w := by
  unfold rowT at ht
  cases hu : P.underlying t with
  | none => simp [hu] at ht
  | some d =>
    have hd : d.isRow = true := by cases d <;> simp_all
    have hi : (P.info? t).map (·.size) = some cs.length := by cases d <;> simp_all
    exact run_loadVar_mid w b o t cs d hc hu hd hi
theorem load_one {P : Program} {t : TypeId} {v : Value} {ad : Addr} {w : World} (ht : plainT P t = true) (hc : w.cell? ad = some v) : (loadVar t ad).run P w = .ok v w := by
  simp only [loadVar, Sem.run_bind, run_isAgg ht, Result.andThen_ok, Bool.false_eq_true, if_false]
  simp [Sem.run, load, hc]
theorem quo_nn {a b : Int} (h0 : 0 ≤ a) (h1 : a ≤ 9223372036854775807) (h2 : 0 < b) : IntKind.i64.wrap (a.tdiv b) = a / b := by
  rw [Int.tdiv_eq_ediv_of_nonneg h0]
  have h3 : 0 ≤ a / b := Int.ediv_nonneg h0 (by omega)
  have h4 : a / b ≤ a := Int.ediv_le_self _ h0
  exact wrap_i64 (by omega) (by omega)
theorem rem_nn {a b : Int} (h0 : 0 ≤ a) : a.tmod b = a % b := Int.tmod_eq_emod_of_nonneg h0
theorem run_max {P : Program} {w : World} {ts : Array TypeId} {ty : TypeId} {cs : Array Bool} {k : IntKind} (a b : Int) : (builtin .max ts ty cs #[.int k a, .int k b]).run P w = .ok (.value (.int k (max a b))) w := by
  have h : (if b > a then b else a) = max a b := by
    rw [Int.max_def]
    split <;> split <;> omega
  show Result.ok (Next.value (.int k (if b > a then b else a))) w = _
  rw [h]
theorem run_min {P : Program} {w : World} {ts : Array TypeId} {ty : TypeId} {cs : Array Bool} {k : IntKind} (a b : Int) : (builtin .min ts ty cs #[.int k a, .int k b]).run P w = .ok (.value (.int k (min a b))) w := by
  have h : (if b < a then b else a) = min a b := by
    rw [Int.min_def]
    split <;> split <;> omega
  show Result.ok (Next.value (.int k (if b < a then b else a))) w = _
  rw [h]
theorem do_eql_t {P : Program} {L : Env} {w : World} {x y : Operand} {k : IntKind} {a b : Int} {t t' : TypeId} (hx : ev L x = some (.int k a)) (hy : ev L y = some (.int k b)) (h : a = b) : Does P L (.binOp .eql t x y t') (some (.bool true)) w w := by
  have := do_eql (P := P) (w := w) (t := t) (t' := t') hx hy
  rwa [decide_eq_true h] at this
end Go.Proofs.YtfmpbbeacpdalaaDoor

/-
  What each operation does: one lemma a kind.
-/
import Derived.Test.YtfmpbbeacpdalaaDoorE
import Derived.Deep.MidRow
set_option linter.unusedVariables false
set_option linter.unusedSimpArgs false
namespace Go.Proofs.YtfmpbbeacpdalaaDoor
open Go.RowKit

section
variable {P : Program} {L : Env} {w w' : World} {x y z : Operand} {k : IntKind} {a b c : Int} {u v z' r' : Value}

theorem int_beq (a b : Int) : (a == b) = decide (a = b) := by by_cases h : a = b <;> simp [h]
theorem do_move (hx : ev L x = some v) : Does P L (.move x) (some v) w w := fun n a ha q hq => by
  unfold execOp
  simp only [hq, ha.eval hx]
  rfl
theorem do_assign (hx : ev L x = some v) : Does P L (.assign x) (some v) w w := fun n a ha q hq => by
  unfold execOp
  simp only [hq, ha.eval hx]
  rfl
theorem do_pick {b : Bool} (hz : ev L z = some (.bool b)) (ht : b = true → ev L x = some v) (hf : b = false → ev L y = some v) : Does P L (.pick z x y) (some v) w w := fun n a ha q hq => by
  unfold execOp
  simp only [hq, ha.eval hz, asBool, Sem.run_bind, Sem.run_pure, Result.andThen_ok]
  cases b with
  | true => rw [if_pos rfl, ha.eval (ht rfl)]
  | false => rw [if_neg (by simp), ha.eval (hf rfl)]
theorem do_pick_t {b : Bool} (hz : ev L z = some (.bool b)) (hb : b = true) (hx : ev L x = some v) : Does P L (.pick z x y) (some v) w w := do_pick hz (fun _ => hx) (fun h => by rw [hb] at h; cases h)
theorem do_pick_f {b : Bool} (hz : ev L z = some (.bool b)) (hb : b = false) (hy : ev L y = some v) : Does P L (.pick z x y) (some v) w w := do_pick hz (fun h => by rw [hb] at h; cases h) (fun _ => hy)
theorem do_binop {op : BinOp} {t t' : TypeId} (hx : ev L x = some u) (hy : ev L y = some v) {r : Value} (hg : ∀ w, (eqGuard op t x y u v).run P w = .ok () w) (hr : (binOp op t u v).run P w = .ok r w) : Does P L (.binOp op t x y t') (some r) w w := fun n a ha q hq => by
  unfold execOp
  simp only [hq, ha.eval hx, ha.eval hy, Sem.run_bind, hg, hr, Result.andThen_ok, Sem.run_pure]
variable {t t' : TypeId} (hx : ev L x = some (.int k a)) (hy : ev L y = some (.int k b))
include hx hy

theorem do_add (e : k.wrap (a + b) = c) : Does P L (.binOp .add t x y t') (some (.int k c)) w w := do_binop hx hy (fun _ => rfl) (by subst e; simp [binOp, Op.intArith])
theorem do_sub (e : k.wrap (a - b) = c) : Does P L (.binOp .sub t x y t') (some (.int k c)) w w := do_binop hx hy (fun _ => rfl) (by subst e; simp [binOp, Op.intArith])
theorem do_mul (e : k.wrap (a * b) = c) : Does P L (.binOp .mul t x y t') (some (.int k c)) w w := do_binop hx hy (fun _ => rfl) (by subst e; simp [binOp, Op.intArith])
theorem do_quo (h0 : b ≠ 0) (e : k.wrap (a.tdiv b) = c) : Does P L (.binOp .quo t x y t') (some (.int k c)) w w := do_binop hx hy (fun _ => rfl) (by subst e; simp [binOp, Op.intDiv, h0])
theorem do_rem (h0 : b ≠ 0) (e : a.tmod b = c) : Does P L (.binOp .rem t x y t') (some (.int k c)) w w := do_binop hx hy (fun _ => rfl) (by subst e; simp [binOp, Op.intDiv, h0])
theorem do_bits {op : BinOp} (ho : op = .and ∨ op = .or ∨ op = .xor ∨ op = .andNot) (e : (Op.intBits op k a b).run P w = .ok (.int k c) w) : Does P L (.binOp op t x y t') (some (.int k c)) w w :=
  do_binop hx hy (by rcases ho with rfl | rfl | rfl | rfl <;> exact fun _ => rfl) (by rcases ho with rfl | rfl | rfl | rfl <;> simp only [binOp] <;> simpa using e)
theorem do_eql : Does P L (.binOp .eql t x y t') (some (.bool (decide (a = b)))) w w := do_binop hx hy (fun _ => rfl) (by simp only [binOp, Op.intCmp, ne_eq, not_true_eq_false, if_false, int_beq]; rfl)
theorem do_neq : Does P L (.binOp .neq t x y t') (some (.bool (decide (a ≠ b)))) w w := do_binop hx hy (fun _ => rfl) (by simp only [binOp, Op.intCmp, ne_eq, not_true_eq_false, if_false, bne, int_beq, decide_not]; rfl)
theorem do_lss : Does P L (.binOp .lss t x y t') (some (.bool (decide (a < b)))) w w := do_binop hx hy (fun _ => rfl) (by simp [binOp, Op.intCmp])
theorem do_leq : Does P L (.binOp .leq t x y t') (some (.bool (decide (a ≤ b)))) w w := do_binop hx hy (fun _ => rfl) (by simp [binOp, Op.intCmp])
theorem do_gtr : Does P L (.binOp .gtr t x y t') (some (.bool (decide (a > b)))) w w := do_binop hx hy (fun _ => rfl) (by simp [binOp, Op.intCmp])
theorem do_geq : Does P L (.binOp .geq t x y t') (some (.bool (decide (a ≥ b)))) w w := do_binop hx hy (fun _ => rfl) (by simp [binOp, Op.intCmp])
omit hx hy

theorem do_shl {k' : IntKind} (hx : ev L x = some (.int k a)) (hy : ev L y = some (.int k' b)) (h0 : 0 ≤ b) (e : k.wrap (a * 2 ^ min b.toNat k.bits) = c) : Does P L (.binOp .shl t x y t') (some (.int k c)) w w :=
  do_binop hx hy (fun _ => rfl) (by subst e; simp only [binOp, Op.shift]; rw [if_neg (by omega)]; rfl)
theorem do_shr {k' : IntKind} (hx : ev L x = some (.int k a)) (hy : ev L y = some (.int k' b)) (h0 : 0 ≤ b) (e : a.fdiv (2 ^ min b.toNat k.bits) = c) : Does P L (.binOp .shr t x y t') (some (.int k c)) w w :=
  do_binop hx hy (fun _ => rfl) (by subst e; simp only [binOp, Op.shift]; rw [if_neg (by omega)]; rfl)
theorem do_not {b c : Bool} (hx : ev L x = some (.bool b)) (e : (!b) = c) : Does P L (.unOp .not t x) (some (.bool c)) w w := fun n a ha q hq => by
  unfold execOp
  simp only [hq, ha.eval hx]
  subst e
  rfl
theorem not_dec (p : Prop) [Decidable p] : (!decide p) = decide ¬p := by by_cases h : p <;> simp [h]
theorem do_neg (hx : ev L x = some (.int k a)) (e : k.wrap (0 - a) = c) : Does P L (.unOp .neg t x) (some (.int k c)) w w := fun n a ha q hq => by
  unfold execOp
  simp only [hq, ha.eval hx]
  subst e
  rfl
theorem do_eqs {l m : List UInt8} (hx : ev L x = some (.string (str l))) (hy : ev L y = some (.string (str m))) : Does P L (.binOp .eql t x y t') (some (.bool (decide (l = m)))) w w :=
  do_binop hx hy (fun _ => rfl) (by
    show (Op.stringOp .eql _ _).run P w = _
    simp only [Op.stringOp, str_eq_dec]
    rfl)
theorem do_nes {l m : List UInt8} (hx : ev L x = some (.string (str l))) (hy : ev L y = some (.string (str m))) : Does P L (.binOp .neq t x y t') (some (.bool (decide (l ≠ m)))) w w :=
  do_binop hx hy (fun _ => rfl) (by
    show (Op.stringOp .neq _ _).run P w = _
    simp only [Op.stringOp, str_eq_dec, decide_not, ne_eq]
    rfl)

/-- A type whose values lie in one cell. -/
def plainT (P : Program) (t : TypeId) : Bool := match P.underlying t with
  | some (.struct _) | some (.array _ _) | none => false
  | _ => true
theorem run_isAgg (h : plainT P t = true) : (isAgg t).run P w = .ok false w := by
  unfold plainT at h
  unfold isAgg
  cases hu : P.underlying t with
  | none => simp [hu] at h
  | some d =>
    rw [Sem.run_bind, run_underlying hu w]
    simp only [hu] at h
    cases d <;> simp_all
theorem do_load {ad : Addr} (hx : ev L x = some (.pointer (some ad))) (ht : plainT P t = true) (hc : w.cell? ad = some v) : Does P L (.load t x) (some v) w w := fun n a ha q hq => by
  unfold execOp
  simp only [hq, ha.eval hx, Instr.loadAt, Instr.sureAddr, loadVar, Sem.run_bind, Sem.run_pure, Result.andThen_ok, run_isAgg ht, Bool.false_eq_true, if_false]
  simp [Sem.run, load, hc]
/-- A type whose values lie in so many cells. -/
def rowT (P : Program) (t : TypeId) (k : Nat) : Bool := match P.underlying t with
  | some (.struct _) | some (.array _ _) => (P.info? t).map (·.size) == some k
  | _ => false
theorem do_loads {b o : Nat} {cs : List Value} (hx : ev L x = some (.pointer (some ⟨b, o, none⟩))) (ht : rowT P t cs.length = true) (hc : w.rangeAt b o cs) : Does P L (.load t x) (some (.agg cs.toArray)) w w := fun n a ha q hq => by
  unfold rowT at ht
  unfold execOp
  simp only [hq, ha.eval hx, Sem.run_bind]
  cases hu : P.underlying t with
  | none => simp [hu] at ht
  | some d =>
    have hd : d.isRow = true := by cases d <;> simp_all
    have hi : (P.info? t).map (·.size) = some cs.length := by cases d <;> simp_all
    rw [run_loadAt_mid w b o t cs d hc hu hd hi]
    rfl
theorem run_store1 {b o : Nat} (hv : v.oneCell' = true) (hs : (P.info? t).map (·.size) = some 1) (hc : w.cell? ⟨b, o, none⟩ = some u) (hf : w.frozen? ⟨b, o, none⟩ = false) : (storeVar t ⟨b, o, none⟩ v).run P w = .ok () (w.setCell ⟨b, o, none⟩ v) := by
  have hcs : v.cells = #[v] := by cases v <;> first | rfl | simp [Value.oneCell'] at hv
  cases hq : P.info? t with
  | none => simp [hq] at hs
  | some i =>
    have hsz : i.size = 1 := by simpa [hq] using hs
    simp [storeVar, Sem.run_bind, sizeOf, typeInfo, hq, hsz, hcs, storeCells, Addr.add_mid, run_store P w _ v _ hv, stored, hc, hf]
theorem do_store {b o : Nat} (hx : ev L x = some (.pointer (some ⟨b, o, none⟩))) (hy : ev L y = some v) (hv : v.oneCell' = true) (hs : (P.info? t).map (·.size) = some 1) (hc : w.cell? ⟨b, o, none⟩ = some u) (hf : w.frozen? ⟨b, o, none⟩ = false) :
    Does P L (.store t x y) none w (w.setCell ⟨b, o, none⟩ v) := fun n a ha q hq => by
  unfold execOp
  simp only [hq, ha.eval hx, ha.eval hy, Sem.run_bind, Instr.storeAt, Instr.sureAddr, Sem.run_pure, Result.andThen_ok, run_store1 hv hs hc hf]
theorem do_stores {b o : Nat} {cs : List Value} (hx : ev L x = some (.pointer (some ⟨b, o, none⟩))) (hy : ev L y = some (.agg cs.toArray)) (h1 : ∀ v ∈ cs, v.oneCell' = true) (hs : (P.info? t).map (·.size) = some cs.length) (ht : w.there b o cs.length) :
    Does P L (.store t x y) none w (w.setCells b o cs) := fun n a ha q hq => by
  unfold execOp
  simp only [hq, ha.eval hx, ha.eval hy, Sem.run_bind, run_storeAt_mid w b o t cs.toArray (by simpa using ht) (by simpa using hs) (all_oneCell_toArray h1), Sem.run_pure, Result.andThen_ok]
/-- Whatever an instruction yields. -/
theorem do_fieldAddr {s : TypeId} {f : Nat} (hx : ev L x = some u) (hr : (Instr.fieldAt s u f).run P w = .ok v w') : Does P L (.fieldAddr s x f) (some v) w w' := fun n a ha q hq => by
  unfold execOp
  simp only [hq, ha.eval hx, Sem.run_bind, hr, Result.andThen_ok, Sem.run_pure]
theorem do_field {f : Nat} (hx : ev L x = some u) (hr : (Instr.field t u f).run P w = .ok v w') : Does P L (.field t x f) (some v) w w' := fun n a ha q hq => by
  unfold execOp
  simp only [hq, ha.eval hx, Sem.run_bind, hr, Result.andThen_ok, Sem.run_pure]
theorem do_extract {f : Nat} (hx : ev L x = some u) (hr : (Instr.extract u f).run P w = .ok v w') : Does P L (.extract x f) (some v) w w' := fun n a ha q hq => by
  unfold execOp
  simp only [hq, ha.eval hx, Sem.run_bind, hr, Result.andThen_ok, Sem.run_pure]
theorem do_indexAddr (hx : ev L x = some u) (hy : ev L y = some z') {r : Value} (hr : (Instr.indexAt t u z').run P w = .ok r w') : Does P L (.indexAddr t x y) (some r) w w' := fun n a ha q hq => by
  unfold execOp
  simp only [hq, ha.eval hx, ha.eval hy, Sem.run_bind, hr, Result.andThen_ok, Sem.run_pure]
theorem do_index (hx : ev L x = some u) (hy : ev L y = some z') {r : Value} (hr : (Instr.index t u z').run P w = .ok r w') : Does P L (.index t x y) (some r) w w' := fun n a ha q hq => by
  unfold execOp
  simp only [hq, ha.eval hx, ha.eval hy, Sem.run_bind, hr, Result.andThen_ok, Sem.run_pure]
theorem do_nilCheck {ad : Addr} (hx : ev L x = some (.pointer (some ad))) : Does P L (.nilCheck x) (some (.pointer (some ad))) w w := fun n a ha q hq => by
  unfold execOp
  simp only [hq, ha.eval hx]
  rfl
theorem do_makeInterface (hx : ev L x = some u) (hr : (Instr.makeInterface t u).run P w = .ok v w') : Does P L (.makeInterface t x) (some v) w w' := fun n a ha q hq => by
  unfold execOp
  simp only [hq, ha.eval hx, Sem.run_bind, hr, Result.andThen_ok, Sem.run_pure]
theorem do_typeAssert {d : TypeId} {ok : Bool} (hx : ev L x = some u) (hr : (Instr.typeAssert u t d ok).run P w = .ok v w') : Does P L (.typeAssert x t d ok) (some v) w w' := fun n a ha q hq => by
  unfold execOp
  simp only [hq, ha.eval hx, Sem.run_bind, hr, Result.andThen_ok, Sem.run_pure]
theorem do_convert {d : TypeId} (hx : ev L x = some u) (hr : (convert t d u).run P w = .ok v w') : Does P L (.convert t d x) (some v) w w' := fun n a ha q hq => by
  unfold execOp
  simp only [hq, ha.eval hx, Sem.run_bind, hr, Result.andThen_ok, Sem.run_pure]
theorem do_alloc (hr : (Instr.alloc t true (.tuple #[])).run P w = .ok v w') : Does P L (.alloc t) (some v) w w' := fun n a ha q hq => by
  unfold execOp
  simp only [hq, Sem.run_bind, hr, Result.andThen_ok, Sem.run_pure]
theorem do_box (hx : ev L x = some u) (hr : (Instr.box t u).run P w = .ok v w') : Does P L (.box t x) (some v) w w' := fun n a ha q hq => by
  unfold execOp
  simp only [hq, ha.eval hx, Sem.run_bind, hr, Result.andThen_ok, Sem.run_pure]
theorem do_makeSlice (hx : ev L x = some u) (hy : ev L y = some z') {r : Value} (hr : (Instr.makeSlice t u z').run P w = .ok r w') : Does P L (.makeSlice t x y) (some r) w w' := fun n a ha q hq => by
  unfold execOp
  simp only [hq, ha.eval hx, ha.eval hy, Sem.run_bind, hr, Result.andThen_ok, Sem.run_pure]
theorem do_makeFunc {f : Fn} {cap : List Operand} {vs : List Value} (hc : evs L cap = some vs) : Does P L (.makeFunc f #[] cap.toArray) (some (.func f #[] vs.toArray)) w w := fun n a ha q hq => by
  unfold execOp
  simp only [hq, Instr.makeFunc, List.map_toArray, ha.evals hc, Sem.run_bind, Sem.run_pure, Result.andThen_ok]
  rfl
def evo (L : Env) : Option Operand → Option (Option Value)
  | none => some none
  | some x => (ev L x).map some
theorem At.evo {n : Nat} {a : Act} (ha : At n L a) {o : Option Operand} {r : Option Value} (h : evo L o = some r) : o.map a.eval = r := by
  cases o with
  | none => simpa [Go.Proofs.YtfmpbbeacpdalaaDoor.evo] using h
  | some x =>
    cases hx : ev L x with
    | none => simp [Go.Proofs.YtfmpbbeacpdalaaDoor.evo, hx] at h
    | some v =>
      simp [Go.Proofs.YtfmpbbeacpdalaaDoor.evo, hx] at h
      subst h
      simp [ha.eval hx]
theorem do_slice {lo hi mx : Option Operand} {l h m : Option Value} (hx : ev L x = some u) (hl : evo L lo = some l) (hh : evo L hi = some h) (hm : evo L mx = some m) (hr : (Instr.sliceAt t u l h m).run P w = .ok v w') : Does P L (.slice t x lo hi mx) (some v) w w' := fun n a ha q hq => by
  unfold execOp
  simp only [hq, ha.eval hx, ha.evo hl, ha.evo hh, ha.evo hm, Sem.run_bind, hr, Result.andThen_ok, Sem.run_pure]
def parts : List (Nat × Operand) → List Value → List (Nat × Value)
  | (i, _) :: ps, v :: vs => (i, v) :: parts ps vs
  | _, _ => []
theorem parts_map {n : Nat} {a : Act} (ha : At n L a) : ∀ {ps : List (Nat × Operand)} {vs : List Value}, evs L (ps.map (·.2)) = some vs → ps.map (fun (i, x) => (i, a.eval x)) = parts ps vs
  | [], vs, h => by simp [evs] at h; subst h; rfl
  | (i, x) :: ps, vs, h => by
    simp only [List.map_cons, evs] at h
    split at h
    · rename_i v us h1 h2
      cases h
      simp [parts, ha.eval h1, parts_map ha h2]
    · cases h
theorem do_build {ps : List (Nat × Operand)} {vs : List Value} (hp : evs L (ps.map (·.2)) = some vs) (hr : (Instr.build t (parts ps vs).toArray).run P w = .ok v w') : Does P L (.build t ps.toArray) (some v) w w' := fun n a ha q hq => by
  unfold execOp
  have := parts_map ha hp
  simp only [hq, List.map_toArray, this, Sem.run_bind, hr, Result.andThen_ok, Sem.run_pure]
theorem do_buildSlice {k : Nat} {ps : List (Nat × Operand)} {vs : List Value} (hp : evs L (ps.map (·.2)) = some vs) (hr : (Instr.buildSlice t k (parts ps vs).toArray).run P w = .ok v w') : Does P L (.buildSlice t k ps.toArray) (some v) w w' := fun n a ha q hq => by
  unfold execOp
  have := parts_map ha hp
  simp only [hq, List.map_toArray, this, Sem.run_bind, hr, Result.andThen_ok, Sem.run_pure]
theorem do_lookup {ok : Bool} (hx : ev L x = some u) (hy : ev L y = some z') {r : Value} (hr : (Instr.lookup t u z' ok).run P w = .ok r w') : Does P L (.lookup t x y ok) (some r) w w' := fun n a ha q hq => by
  unfold execOp
  simp only [hq, ha.eval hx, ha.eval hy, Sem.run_bind, hr, Result.andThen_ok, Sem.run_pure]
theorem do_makeMap {m : Option Operand} {l : Option Value} (hm : evo L m = some l) (hr : (Instr.makeMap t l).run P w = .ok v w') : Does P L (.makeMap t m) (some v) w w' := fun n a ha q hq => by
  unfold execOp
  simp only [hq, ha.evo hm, Sem.run_bind, hr, Result.andThen_ok, Sem.run_pure]
theorem do_mapUpdate {m : Operand} (hm : ev L m = some r') (hx : ev L x = some u) (hy : ev L y = some v) (hr : (Instr.mapUpdate t r' u v).run P w = .ok () w') : Does P L (.mapUpdate t m x y) none w w' := fun n a ha q hq => by
  unfold execOp
  simp only [hq, ha.eval hm, ha.eval hx, ha.eval hy, Sem.run_bind, hr, Result.andThen_ok, Sem.run_pure]
theorem do_insert {m : Operand} (hm : ev L m = some r') (hx : ev L x = some u) (hy : ev L y = some v) (hr : (Instr.mapUpdate t r' u v).run P w = .ok () w') : Does P L (.insert t m x y) none w w' := fun n a ha q hq => by
  unfold execOp
  simp only [hq, ha.eval hm, ha.eval hx, ha.eval hy, Sem.run_bind, hr, Result.andThen_ok, Sem.run_pure]
theorem do_range (hx : ev L x = some u) (hr : (Instr.range t u).run P w = .ok v w') : Does P L (.range t x) (some v) w w' := fun n a ha q hq => by
  unfold execOp
  simp only [hq, ha.eval hx, Sem.run_bind, hr, Result.andThen_ok, Sem.run_pure]
theorem do_next {s : Bool} (hx : ev L x = some u) (hr : ∀ ty, (Instr.next u s ty).run P w = .ok v w') : Does P L (.next x s) (some v) w w' := fun n a ha q hq => by
  unfold execOp
  simp only [hq, ha.eval hx, Sem.run_bind, hr, Result.andThen_ok, Sem.run_pure]
theorem do_builtin {bi : Builtin} {xs : List Operand} {ts : Array TypeId} {vs : List Value} (hx : evs L xs = some vs) (hr : ∀ ty cs, (builtin bi ts ty cs vs.toArray).run P w = .ok (.value v) w') : Does P L (.call { callee := .builtin bi, args := xs.toArray, argTypes := ts }) (some v) w w' := fun n a ha q hq => by
  unfold execOp
  simp only [hq, resolve, List.map_toArray, ha.evals hx, Sem.run_bind, Sem.run_pure, Result.andThen_ok, invoke, hr]
/-- A function with a body of its own. -/
def enters (P : Program) (f : FuncId) : Bool := match P.funcs[f]? with
  | some fn => !(fn.name == "runtime.NumGoroutine") && !fn.body.isNone
  | none => false
theorem run_callFunc {f : FuncId} {args : Array Value} (h : enters P f = true) : (callFunc f args).run P w = .ok (.enter f args) w := by
  unfold enters at h
  cases hf : P.funcs[f]? with
  | none => simp [hf] at h
  | some fn =>
    simp only [hf, Bool.and_eq_true, Bool.not_eq_true'] at h
    have h1 : ¬ fn.name = "runtime.NumGoroutine" := by simpa using h.1
    have h2 : ¬ fn.body = none := fun e => by simp [e] at h
    unfold callFunc
    simp [Sem.run_bind, program, Sem.run, hf, h1, h2]
theorem en_call {f : FuncId} {xs : List Operand} {ts : Array TypeId} {vs : List Value} (he : enters P f = true) (hx : evs L xs = some vs) : Enters P L (.call { callee := .value (.func f), args := xs.toArray, argTypes := ts }) f vs.toArray w := fun n a ha q hq => by
  unfold execOp
  simp only [hq, resolve, List.map_toArray, ha.evals hx, Sem.run_bind, Act.eval, Deferred.ofValue, Sem.run_pure, Result.andThen_ok, invoke]
  simp [run_callFunc he, Sem.run_bind]
theorem en_value {f : FuncId} {xs : List Operand} {ts : Array TypeId} {vs : List Value} {cap : List Value} (hz : ev L z = some (.func (.func f) #[] cap.toArray)) (he : enters P f = true) (hx : evs L xs = some vs) :
    Enters P L (.call { callee := .value z, args := xs.toArray, argTypes := ts }) f (vs ++ cap).toArray w := fun n a ha q hq => by
  unfold execOp
  simp only [hq, resolve, List.map_toArray, ha.evals hx, ha.eval hz, Sem.run_bind, Deferred.ofValue, Sem.run_pure, Result.andThen_ok, invoke]
  simp [run_callFunc he, Sem.run_bind]
end
end Go.Proofs.YtfmpbbeacpdalaaDoor

/-
  The walk by steps: a frame is known by a list of its slots; one lemma for each kind of code.
-/
import Derived.Test.YtfmpbbeacpdalaaDoorW
import Derived.Deep.RegionHeld3
set_option linter.unusedVariables false
set_option linter.unusedSimpArgs false
namespace Go.Proofs.YtfmpbbeacpdalaaDoor
open Go.RowKit


abbrev Env := List (Nat × Value)
/-- What is known of a frame: how many slots it has, that nothing is deferred, and some slots' values. -/
structure At (n : Nat) (L : Env) (a : Act) : Prop where
  size : a.tmps.size = n
  dfr : a.defers = []
  get : ∀ t v, L.lookup t = some v → a.tmps[t]? = some v

def consd (d : Option Nat) (v : Value) (L : Env) : Env := match d with
  | some d => (d, v) :: L
  | none => L
def ev (L : Env) : Operand → Option Value
  | .tmp t => L.lookup t
  | .const v => some v
  | .global g => some (.pointer (some ⟨g, 0, none⟩))
  | .func f => some (.func (.func f) #[] #[])
def evs (L : Env) : List Operand → Option (List Value)
  | [] => some []
  | x :: xs => match ev L x, evs L xs with
    | some v, some vs => some (v :: vs)
    | _, _ => none

section
variable {n : Nat} {L L' : Env} {a : Act}

theorem At.eval (h : At n L a) {x : Operand} {v : Value} (hx : ev L x = some v) : a.eval x = v := by
  cases x with
  | tmp t =>
    have := h.get t v hx
    simp [Act.eval, Array.getD_eq_getD_getElem?, this]
  | const u => simpa [ev, Act.eval] using hx
  | global g => simpa [ev, Act.eval] using hx
  | func f => simpa [ev, Act.eval] using hx
theorem At.evals (h : At n L a) : ∀ {xs : List Operand} {vs : List Value}, evs L xs = some vs → xs.map a.eval = vs
  | [], vs, hx => by simpa [evs] using hx
  | x :: xs, vs, hx => by
    simp only [evs] at hx
    split at hx
    · rename_i v us h1 h2
      cases hx
      simp [h.eval h1, h.evals h2]
    · cases hx
theorem At.put (h : At n L a) {d : Nat} (hd : d < n) (v : Value) : At n ((d, v) :: L) (a.put (some d) v) := by
  refine ⟨by simp [Act.put, h.size], h.dfr, fun t u hu => ?_⟩
  simp only [List.lookup] at hu
  simp only [Act.put]
  by_cases htd : t = d
  · subst htd
    simp at hu
    subst hu
    simp [h.size, hd]
  · have : (t == d) = false := by simpa using htd
    simp only [this] at hu
    rw [Array.getElem?_setIfInBounds_ne (Ne.symm htd)]
    exact h.get t u hu
theorem At.put0 (h : At n L a) (d : Option Nat) (hd : d.all (fun t => (L.lookup t).isNone) = true) (v : Value) : At n L (a.put d v) := by
  cases d with
  | none => exact h
  | some d =>
    refine ⟨by simp [Act.put, h.size], h.dfr, fun t u hu => ?_⟩
    simp only [Act.put]
    have hne : d ≠ t := by
      rintro rfl
      simp [hu] at hd
    rw [Array.getElem?_setIfInBounds_ne hne]
    exact h.get t u hu
theorem At.sub (h : At n L a) (hs : ∀ t v, L'.lookup t = some v → L.lookup t = some v) : At n L' a := ⟨h.size, h.dfr, fun t v hv => h.get t v (hs t v hv)⟩
theorem sub_nil : ∀ t v, List.lookup t ([] : Env) = some v → L.lookup t = some v := by simp
theorem sub_cons {t : Nat} {v : Value} (hv : L.lookup t = some v) (hs : ∀ t v, L'.lookup t = some v → L.lookup t = some v) : ∀ u x, List.lookup u ((t, v) :: L') = some x → L.lookup u = some x := by
  intro u x hx
  simp only [List.lookup] at hx
  split at hx
  · rename_i hut
    have : u = t := by simpa using hut
    subst this
    cases hx
    exact hv
  · exact hs u x hx
theorem sub_as {t : Nat} {v u : Value} (hv : L.lookup t = some v) (e : v = u) : L.lookup t = some u := e ▸ hv
end


/-- Code, from a frame that is known so, in a world, comes to Q. -/
def T (P : Program) (n : Nat) (L : Env) (c : Code) (w : World) (Q : Exit → Act → World → Prop) : Prop := ∀ a, At n L a → c.wp P Q a w
def TK (n : Nat) (L : Env) (K : Act → World → Prop) (w : World) : Prop := ∀ a, At n L a → K a w
def TX (n : Nat) (L : Env) (Q : Exit → Act → World → Prop) (e : Exit) (w : World) : Prop := ∀ a, At n L a → Q e a w
/-- Is an operation wanted, by what is known of the slot of its guard? -/
def Want (os : List Oper) (L : Env) (gd : Option (Nat × Bool)) (b : Bool) : Prop :=
  match gd with
  | none => b = true
  | some (j, want) => ∃ g v, (os[j]?).bind (·.dst) = some g ∧ L.lookup g = some v ∧ (match v with | .bool x => x == want | _ => false) = b
theorem Want.wanted {n : Nat} {L : Env} {a : Act} {os : List Oper} {o : Oper} {b : Bool} (h : Want os L o.guard b) (ha : At n L a) : Region.wanted o (yielded os.toArray a.tmps) = b := by
  unfold Want at h
  unfold Region.wanted
  split at h
  · rename_i hg
    rw [hg, h]
  · rename_i j want hg
    obtain ⟨g, v, h1, h2, h3⟩ := h
    rw [hg]
    simp only [yielded, List.getElem?_toArray, h1, Option.bind_some, ha.get g _ h2]
    rw [← h3]
    cases v with
    | bool x => cases x <;> cases want <;> rfl
    | _ => rfl
/-- The operations of a region that come one behind the other. -/
def TL (P : Program) (os : List Oper) (n : Nat) (L : Env) (rest : List Oper) (w : World) (Q : Exit → Act → World → Prop) : Prop :=
  ∀ a, At n L a → ∀ is : List Nat, is.map (fun i => os[i]?) = rest.map some → wpOps P os.toArray Q is a w
/-- What an operation yields (none: nothing), and in which world it leaves us. -/
def Does (P : Program) (L : Env) (o : Op) (v : Option Value) (w w' : World) : Prop :=
  ∀ (n : Nat) (a : Act), At n L a → ∀ q : Oper, q.op = o → (execOp a.eval q).run P w = .ok (match v with | some v => .value v | none => .skip) w'
/-- A call that is entered. -/
def Enters (P : Program) (L : Env) (o : Op) (f : FuncId) (args : Array Value) (w : World) : Prop :=
  ∀ (n : Nat) (a : Act), At n L a → ∀ q : Oper, q.op = o → (execOp a.eval q).run P w = .ok (.enter f args) w

section
variable {P : Program} {n : Nat} {L L' : Env} {w w' : World} {Q : Exit → Act → World → Prop} {K : Act → World → Prop} {os rest : List Oper}

theorem TK.sub (h : TK n L' K w) (hs : ∀ t v, L'.lookup t = some v → L.lookup t = some v) : TK n L K w := fun a ha => h a (ha.sub hs)
theorem T.sub {c : Code} (h : T P n L' c w Q) (hs : ∀ t v, L'.lookup t = some v → L.lookup t = some v) : T P n L c w Q := fun a ha => h a (ha.sub hs)
theorem t_seq {x y : Code} (h : ∀ K : Act → World → Prop, (∀ n L w, T P n L y w Q → TK n L K w) → T P n L x w (Exit.then K Q)) : T P n L (x.seq y) w Q := by
  intro a ha
  refine wp_seq_k fun K hK => h K (fun n L w hT a ha => hK a w (hT a ha)) a ha
theorem t_skip (h : TX n L Q .normal w) : T P n L .skip w Q := fun a ha => wp_skip (h a ha)
theorem t_exit {id : Nat} (h : TX n L Q (.exit id) w) : T P n L (.exit id) w Q := fun a ha => wp_exit (h a ha)
theorem t_ret (h : TX n L Q .ret w) : T P n L .ret w Q := fun a ha => wp_ret (h a ha)
theorem t_block {id : Nat} {c : Code} (h : T P n L c w (Exit.inBlock id Q)) : T P n L (.block id c) w Q := fun a ha => wp_block (h a ha)
theorem t_cond {c : Operand} {x y : Code} {b : Bool} (hc : ev L c = some (.bool b)) (ht : b = true → T P n L x w Q) (hf : b = false → T P n L y w Q) : T P n L (.cond c x y) w Q := fun a ha =>
  wp_cond_split (ha.eval hc) (fun h => ht h a ha) (fun h => hf h a ha)
theorem t_if {c : Operand} {x y : Code} {p : Prop} {_ : Decidable p} (hc : ev L c = some (.bool (decide p))) (ht : p → T P n L x w Q) (hf : ¬p → T P n L y w Q) : T P n L (.cond c x y) w Q :=
  t_cond hc (fun h => ht (of_decide_eq_true h)) (fun h => hf (of_decide_eq_false h))
theorem t_yes {c : Operand} {x y : Code} {b : Bool} (hc : ev L c = some (.bool b)) (hb : b = true) (ht : T P n L x w Q) : T P n L (.cond c x y) w Q := t_cond hc (fun _ => ht) (fun h => by rw [hb] at h; cases h)
theorem t_no {c : Operand} {x y : Code} {b : Bool} (hc : ev L c = some (.bool b)) (hb : b = false) (hf : T P n L y w Q) : T P n L (.cond c x y) w Q := t_cond hc (fun h => by rw [hb] at h; cases h) (fun _ => hf)
/-- A loop: what is known at the head of each round, for the ghosts g. -/
theorem t_loop {G : Type} {c : Code} (E : G → Env) (I : G → World → Prop) (μ : G → Nat) (g0 : G) (h0 : I g0 w) (hs : ∀ t v, (E g0).lookup t = some v → L.lookup t = some v)
    (round : ∀ (g : G) (w : World) (Kb : Act → World → Prop), I g w → (∀ (g' : G) (w' : World) (L : Env), I g' w' → μ g' < μ g → (∀ t v, (E g').lookup t = some v → L.lookup t = some v) → TK n L Kb w') → T P n (E g) c w (Exit.then Kb Q)) :
    T P n L (.loop c) w Q := by
  intro a ha
  refine wp_loop_ghost (fun k a w => ∃ g, μ g = k ∧ I g w ∧ At n (E g) a) (μ g0) ⟨g0, rfl, h0, ha.sub hs⟩ ?_
  rintro k a w ⟨g, rfl, hI, hA⟩
  exact round g w _ hI (fun g' w' L2 hI' hm hs' a' ha' => ⟨μ g', hm, g', rfl, hI', ha'.sub hs'⟩) a hA
/-- A region whose order is fixed. -/
theorem t_region {id : Nat} (h : TL P os n L os w Q) : T P n L (.region id os.toArray false) w Q := fun a ha =>
  wp_region (h a ha _ (by
    simp
    apply List.ext_getElem
    · simp
    · intro i h1 h2
      simp at h1
      simp [h1]))
theorem tl_end (h : TX n L Q .normal w) : TL P os n L [] w Q := by
  intro a ha is his
  have : is = [] := by simpa using his
  subst this
  exact h a ha
theorem tl_split {o : Oper} (h : ∀ a, At n L a → ∀ i is, os[i]? = some o → is.map (fun i => os[i]?) = rest.map some → wpOps P os.toArray Q (i :: is) a w) : TL P os n L (o :: rest) w Q := by
  intro a ha is his
  cases is with
  | nil => simp at his
  | cons i is =>
    simp at his
    exact h a ha i is his.1 (by simpa using his.2)
theorem wpOps_at {o : Oper} {i : Nat} {is : List Nat} {a : Act} (hi : os[i]? = some o) (hw : Region.wanted o (yielded os.toArray a.tmps) = true) (h : o.wp P a w (wpOps P os.toArray Q is) Q) : wpOps P os.toArray Q (i :: is) a w := by
  simp only [wpOps, List.getElem?_toArray, hi, hw, if_true]
  exact .inl h
theorem tl_val {d : Nat} {o : Op} {ty : TypeId} {po : String} {af : Array Edge} {gd : Option (Nat × Bool)} {v : Value} (hw : Want os L gd true) (h : Does P L o (some v) w w') (hd : d < n) (k : TL P os n ((d, v) :: L) rest w' Q) :
    TL P os n L ({ dst := some d, op := o, type := ty, pos := po, after := af, guard := gd } :: rest) w Q :=
  tl_split fun a ha i is hi his => wpOps_at hi (hw.wanted (o := { dst := some d, op := o, type := ty, pos := po, after := af, guard := gd }) ha) (by
    unfold Oper.wp
    rw [h n a ha _ rfl]
    exact k _ (ha.put hd v) is his)
theorem tl_unit {o : Op} {ty : TypeId} {po : String} {af : Array Edge} {gd : Option (Nat × Bool)} (hw : Want os L gd true) (h : Does P L o none w w') (k : TL P os n L rest w' Q) :
    TL P os n L ({ dst := none, op := o, type := ty, pos := po, after := af, guard := gd } :: rest) w Q :=
  tl_split fun a ha i is hi his => wpOps_at hi (hw.wanted (o := { dst := none, op := o, type := ty, pos := po, after := af, guard := gd }) ha) (by
    unfold Oper.wp
    rw [h n a ha _ rfl]
    exact k _ ha is his)
theorem tl_skipU {d : Nat} {o : Op} {ty : TypeId} {po : String} {af : Array Edge} {gd : Option (Nat × Bool)} (hw : Want os L gd false) (hd : d < n) (k : TL P os n ((d, undef) :: L) rest w Q) :
    TL P os n L ({ dst := some d, op := o, type := ty, pos := po, after := af, guard := gd } :: rest) w Q :=
  tl_split fun a ha i is hi his => by
    have hw' := hw.wanted (o := { dst := some d, op := o, type := ty, pos := po, after := af, guard := gd }) ha
    simp only [wpOps, List.getElem?_toArray, hi, hw', Bool.false_eq_true, if_false]
    exact k _ (ha.put hd _) is his
theorem tl_skip {d : Option Nat} {o : Op} {ty : TypeId} {po : String} {af : Array Edge} {gd : Option (Nat × Bool)} (hw : Want os L gd false) (hd : d.all (fun t => (L.lookup t).isNone) = true) (k : TL P os n L rest w Q) :
    TL P os n L ({ dst := d, op := o, type := ty, pos := po, after := af, guard := gd } :: rest) w Q :=
  tl_split fun a ha i is hi his => by
    have hw' := hw.wanted (o := { dst := d, op := o, type := ty, pos := po, after := af, guard := gd }) ha
    simp only [wpOps, List.getElem?_toArray, hi, hw', Bool.false_eq_true, if_false]
    exact k _ (ha.put0 d hd _) is his
theorem tl_call {d : Option Nat} {o : Op} {ty : TypeId} {po : String} {af : Array Edge} {gd : Option (Nat × Bool)} {f : FuncId} {args : Array Value} {R : Ending → World → Prop} (hw : Want os L gd true) (he : Enters P L o f args w) (hd : d.all (fun t => decide (t < n)) = true)
    (hc : Calls P f args w R) (ret : ∀ v w', R (.returned v) w' → TL P os n (consd d v L) rest w' Q) (pan : ∀ ch w', R (.panicked ch) w' → TX n L Q (.panic ch) w') (out : ∀ w', R .outgrown w' → False) :
    TL P os n L ({ dst := d, op := o, type := ty, pos := po, after := af, guard := gd } :: rest) w Q :=
  tl_split fun a ha i is hi his => wpOps_at hi (hw.wanted (o := { dst := d, op := o, type := ty, pos := po, after := af, guard := gd }) ha) (by
    unfold Oper.wp
    rw [he n a ha _ rfl]
    refine hc.mono fun e w'' hR => ?_
    cases e with
    | returned v =>
      refine ret v w'' hR _ ?_ is his
      cases d with
      | none => exact ha
      | some d => exact ha.put (by simpa using hd) v
    | panicked ch => exact pan ch w'' hR _ ha
    | outgrown => exact (out w'' hR).elim)

/-! What is handed back. -/

def Res (P : Program) (L : Env) (w : World) : List ResultVar → List Value → Prop
  | [], vs => vs = []
  | .tmp t :: rs, vs => ∃ v us, vs = v :: us ∧ L.lookup t = some v ∧ Res P L w rs us
  | .cell t ty :: rs, vs => ∃ v us ad, vs = v :: us ∧ L.lookup t = some (.pointer (some ad)) ∧ (loadVar ty ad).run P w = .ok v w ∧ Res P L w rs us
def resOne (tmps : Array Value) (r : ResultVar) : Sem Value :=
  match r with
  | .tmp t => pure (tmps.getD t undef)
  | .cell t ty => do loadVar ty (← asAddr (tmps.getD t undef))
theorem Res.runs {a : Act} (ha : At n L a) : ∀ {rs : List ResultVar} {vs : List Value}, Res P L w rs vs → (rs.mapM (resOne a.tmps)).run P w = Result.ok vs w
  | [], vs, h => by
    simp only [Res] at h
    subst h
    rfl
  | .tmp t :: rs, vs, h => by
    obtain ⟨v, us, rfl, h1, h2⟩ := h
    have e := ha.get t v h1
    have ih := Res.runs ha h2
    simp only [List.mapM_cons, Sem.run_bind, Sem.run_pure, Result.andThen_ok, ih, resOne]
    simp [Array.getD_eq_getD_getElem?, e]
  | .cell t ty :: rs, vs, h => by
    obtain ⟨v, us, ad, rfl, h1, h2, h3⟩ := h
    have e := ha.get t _ h1
    have ih := Res.runs ha h3
    have hg : a.tmps.getD t undef = .pointer (some ad) := by simp [Array.getD_eq_getD_getElem?, e]
    simp only [List.mapM_cons, Sem.run_bind, Sem.run_pure, resOne, hg, asAddr, Result.andThen_ok, h2, ih]
def one (vs : List Value) : Value := match vs with
  | [v] => v
  | _ => .tuple vs.toArray
theorem body_ret {fn : Func} {R : Ending → World → Prop} {rs : List ResultVar} {vs : List Value} {a : Act} (ha : At n L a) (hrs : fn.results = rs.toArray) (h : Res P L w rs vs) (hR : R (.returned (one vs)) w) : bodyPost P fn R .ret a w := by
  refine ⟨ha.dfr, one vs, ?_, hR⟩
  have hrun := Res.runs ha h
  show (do
    let us ← fn.results.mapM (resOne a.tmps)
    pure (if h : us.size = 1 then us[0] else .tuple us) : Sem Value).run P w = _
  rw [hrs, List.mapM_toArray]
  simp only [Sem.run_bind, map_eq_pure_bind, hrun, Result.andThen_ok, Sem.run_pure]
  cases vs with
  | nil => rfl
  | cons v us =>
    cases us with
    | nil => rfl
    | cons u us => rfl
theorem body_end {fn : Func} {R : Ending → World → Prop} {rs : List ResultVar} {vs : List Value} {a : Act} (ha : At n L a) (hrs : fn.results = rs.toArray) (h : Res P L w rs vs) (hR : R (.returned (one vs)) w) : bodyPost P fn R .normal a w := body_ret ha hrs h hR
theorem body_panic {fn : Func} {R : Ending → World → Prop} {ch : List PanicEntry} {a : Act} (ha : At n L a) (hR : R (.panicked ch) w) : bodyPost P fn R (.panic ch) a w := ⟨ha.dfr, hR⟩
/-- Into a function. -/
theorem enter {f : FuncId} {fn : Func} {c : Code} {args : List Value} {R : Ending → World → Prop} (hf : P.funcs[f]? = some fn) (hb : fn.body = some c) (hn : fn.ntmps = n) (hl : args.length ≤ n)
    (hL : ∀ t v, L.lookup t = some v → args[t]? = some v) (h : T P n L c w (bodyPost P fn R)) : Calls P f args.toArray w R := by
  refine calls_of_wp hf hb (h _ ⟨by simp [hn]; omega, rfl, fun t v hv => ?_⟩)
  have := hL t v hv
  obtain ⟨hlt, he⟩ := List.getElem?_eq_some_iff.1 this
  simp [Array.getElem?_append, hlt, he]

/-! A region that draws its order, taken in an order of ours: what only reads is taken first (true), all else comes up alone (false). What is known of the world need not hold behind operation k, which waits for all others. -/

def wpAnyK (P : Program) (ops : Array Oper) (Q : Exit → Act → World → Prop) (S : World → Prop) (k : Nat) : Nat → Array Bool → Act → World → Prop
  | 0, listed, a, w => Region.ready .any ops listed = [] ∧ Q .normal a w
  | fuel + 1, listed, a, w =>
    (Region.ready .any ops listed = [] → Q .normal a w) ∧
    ∀ i ∈ Region.ready .any ops listed, wpOp P ops Q i (fun a' w' => (i = k ∨ S w') ∧ wpAnyK P ops Q S k fuel (listed.setIfInBounds i true) a' w') a w
section
variable {ops : Array Oper} {S : World → Prop} {k : Nat}

theorem wpAny_of_K : ∀ (fuel : Nat) (listed : Array Bool) (a : Act) (w : World), wpAnyK P ops Q S k fuel listed a w → wpAny P .any ops Q fuel listed a w
  | 0, _, _, _, h => h
  | fuel + 1, _, _, _, h => ⟨h.1, fun i hi => wpOp_mono (fun a' w' h' => wpAny_of_K fuel _ a' w' h'.2) (h.2 i hi)⟩
/-- Does k wait for i? -/
def waits (ops : Array Oper) (k i : Nat) : Bool := match ops[k]? with
  | some ok => ok.after.any fun e => Region.binds .any e && e.on == i
  | none => true
theorem not_ready_k {i : Nat} {listed : Array Bool} (hw : waits ops k i = true) (hi : i ∈ Region.ready .any ops listed) : k ∉ Region.ready .any ops listed := by
  intro hk
  obtain ⟨hkun, ok, hok, hall⟩ := mem_ready.1 hk
  obtain ⟨hiun, oi, hoi, _⟩ := mem_ready.1 hi
  unfold waits at hw
  rw [hok] at hw
  simp only [Array.any_eq_true, Bool.and_eq_true, beq_iff_eq] at hw
  obtain ⟨n, hn, hb, he⟩ := hw
  have h1 := hall _ (Array.getElem_mem hn) hb
  rw [he] at h1
  have hlt := (Array.getElem?_eq_some_iff.1 hoi).1
  rcases Nat.lt_or_ge i listed.size with h | h
  · simp [h] at hiun h1
    rw [hiun] at h1
    cases h1
  · simp [Array.getElem?_eq_none h] at h1
theorem wpAnyK_first {i : Nat} {oi : Oper} {v : Value} (hi : ops[i]? = some oi) (hsel : ∀ (j : Nat) (o : Oper) cs b, ops[j]? = some o → o.op ≠ .select cs b)
    (hQ : ∀ c a w, Q (.panic c) (a.put oi.dst v) w → Q (.panic c) a w) (hw : waits ops k i = true) :
    ∀ (fuel : Nat) (listed : Array Bool) (a : Act) (w : World),
      (∀ j oj, ops[j]? = some oj → j ≠ i → listed.getD j true = false → (∀ e ∈ oj.after, Region.binds .any e = true → e.on ≠ i) → oi.apart ops oj = true) →
      i ∈ Region.ready .any ops listed → YieldsIf P ops S oi v a → S w →
      wpAnyK P ops Q S k fuel (listed.setIfInBounds i true) (a.put oi.dst v) w → wpAnyK P ops Q S k (fuel + 1) listed a w := by
  intro fuel
  induction fuel with
  | zero =>
    intro listed a w _ hr hy hS H
    refine ⟨fun h => (by rw [h] at hr; cases hr), fun j hj => ?_⟩
    by_cases hji : j = i
    · subst hji
      exact hy.wpOp hi hS ⟨.inr hS, H⟩
    · have := ready_mono hj hji
      rw [H.1] at this
      cases this
  | succ fuel ih =>
    intro listed a w hfree hr hy hS H
    refine ⟨fun h => (by rw [h] at hr; cases hr), fun j hj => ?_⟩
    by_cases hji : j = i
    · subst hji
      exact hy.wpOp hi hS ⟨.inr hS, H⟩
    · have hjk : j ≠ k := fun e => not_ready_k hw hr (e ▸ hj)
      have h1 := H.2 j (ready_mono hj hji)
      obtain ⟨hjun, oj, hoj, hall⟩ := mem_ready.1 hj
      have hnot : ∀ e ∈ oj.after, Region.binds .any e = true → e.on ≠ i := fun e he hb heq => by
        have h1 := hall e he hb
        have h0 := (mem_ready.1 hr).1
        rw [heq] at h1
        rcases Nat.lt_or_ge i listed.size with h' | h'
        · simp [h'] at h0 h1
          rw [h0] at h1
          cases h1
        · simp [Array.getElem?_eq_none h'] at h1
      have h2 := wpOp_putIf hoj (hfree j oj hoj hji hjun hnot) (fun cs b => hsel i oi cs b hi) (fun cs b => hsel j oj cs b hoj) hQ hy h1
      have hfree' : ∀ k ok, ops[k]? = some ok → k ≠ i → (listed.setIfInBounds j true).getD k true = false →
          (∀ e ∈ ok.after, Region.binds .any e = true → e.on ≠ i) → oi.apart ops ok = true := fun k ok hk hki hun hno => by
        refine hfree k ok hk hki ?_ hno
        by_cases hjk : j = k
        · subst hjk
          exact hjun
        · rw [getD_set_ne true hjk] at hun
          exact hun
      refine wpOp_mono (fun a' w' h3 => ?_) h2
      have hS' : S w' := h3.2.1.resolve_left hjk
      refine ⟨.inr hS', ih (listed.setIfInBounds j true) a' w' hfree' (ready_mono hr (Ne.symm hji)) h3.1 hS' ?_⟩
      rw [Array.setIfInBounds_comm _ _ hji]
      exact h3.2.2
end

/-- In which order they are taken. -/
inductive Plan where
  | done
  | take (i : Nat) (o : Oper) (r : Plan)
  | one (i : Nat) (o : Oper) (r : Plan)
  | two (i : Nat) (oi : Oper) (r : Plan) (j : Nat) (oj : Oper) (s : Plan)
def Plan.len : Plan → Nat
  | .done => 0
  | .take _ _ r => r.len + 1
  | .one _ _ r => r.len + 1
  | .two _ _ r _ _ _ => r.len + 1
def Plan.at_ (os : List Oper) : Plan → List (Option Oper)
  | .done => []
  | .take i _ r => os[i]? :: r.at_ os
  | .one i _ r => os[i]? :: r.at_ os
  | .two i _ r j _ s => os[i]? :: os[j]? :: (r.at_ os ++ s.at_ os)
def Plan.ops : Plan → List (Option Oper)
  | .done => []
  | .take _ o r => some o :: r.ops
  | .one _ o r => some o :: r.ops
  | .two _ oi r _ oj s => some oi :: some oj :: (r.ops ++ s.ops)
theorem Plan.at_len (os : List Oper) : ∀ p : Plan, (p.at_ os).length = p.ops.length
  | .done => rfl
  | .take i o r => by simp [Plan.at_, Plan.ops, Plan.at_len os r]
  | .one i o r => by simp [Plan.at_, Plan.ops, Plan.at_len os r]
  | .two i oi r j oj s => by simp [Plan.at_, Plan.ops, Plan.at_len os r, Plan.at_len os s]
def planB (ops : Array Oper) (k : Nat) : Array Bool → Plan → Bool
  | l, .done => (Region.ready .any ops l).isEmpty
  | l, .take i _ r => Region.free .any ops l i && (Region.ready .any ops l).contains i && waits ops k i && planB ops k (l.setIfInBounds i true) r
  | l, .one i _ r => (Region.ready .any ops l == [i]) && planB ops k (l.setIfInBounds i true) r
  | l, .two i _ r j _ s => (Region.ready .any ops l == [i, j]) && (r.len == s.len) && planB ops k (l.setIfInBounds i true) r && planB ops k (l.setIfInBounds j true) s
/-- A fact that a panic's way does not look at the slots. -/
def Blind (Q : Exit → Act → World → Prop) : Prop := ∀ c a d v w, Q (.panic c) (a.put d v) w → Q (.panic c) a w
def TD (P : Program) (os : List Oper) (n : Nat) (L : Env) (S : World → Prop) (k : Nat) (l : Array Bool) (items : Plan) (w : World) (Q : Exit → Act → World → Prop) : Prop :=
  Region.noSelect os.toArray = true → Blind Q → planB os.toArray k l items = true → items.at_ os = items.ops → ∀ a, At n L a → wpAnyK P os.toArray Q S k items.len l a w
section
variable {S S' : World → Prop} {l : Array Bool} {items : Plan} {i k : Nat} {o : Op} {ty : TypeId} {po : String} {af : Array Edge} {gd : Option (Nat × Bool)}

theorem t_drawn {id : Nat} (items : Plan) (hm : P.follows .mixedOrders = true) (hn : Region.noSelect os.toArray = true) (hb : Blind Q) (hp : planB os.toArray k (Array.replicate os.length false) items = true)
    (hi : items.at_ os = items.ops) (hl : items.len = os.length) (h : TD P os n L S k (Array.replicate os.length false) items w.drew Q) : T P n L (.region id os.toArray true) w Q := fun a ha => by
  have := h hn hb hp hi a ha
  rw [hl] at this
  exact wp_region_any hm (wpAny_of_K _ _ _ _ (by simpa using this))
theorem td_end (h : TX n L Q .normal w) : TD P os n L S k l .done w Q := fun hn hb hp hi a ha =>
  ⟨by simpa [planB] using hp, h a ha⟩
theorem td_more (hS : ∀ w, S' w → S w) (h : TD P os n L S' k l items w Q) : TD P os n L S k l items w Q := fun hn hb hp hi a ha => by
  have key : ∀ (fuel : Nat) (listed : Array Bool) (a : Act) (w : World), wpAnyK P os.toArray Q S' k fuel listed a w → wpAnyK P os.toArray Q S k fuel listed a w := by
    intro fuel
    induction fuel with
    | zero => exact fun _ _ _ h => h
    | succ fuel ih => exact fun l a w h => ⟨h.1, fun i hi => wpOp_mono (fun a' w' h' => ⟨h'.1.imp id (hS _), ih _ a' w' h'.2⟩) (h.2 i hi)⟩
  exact key _ _ _ _ (h hn hb hp hi a ha)
theorem td_put {d : Option Nat} {v : Value} (hw : (Want os L gd true ∧ ∀ w, S w → Does P L o (some v) w w) ∨ (Want os L gd false ∧ v = undef)) (hS : S w) (hL : ∀ a, At n L a → At n L' (a.put d v))
    (kk : TD P os n L' S k (l.setIfInBounds i true) items w Q) : TD P os n L S k l (.take i { dst := d, op := o, type := ty, pos := po, after := af, guard := gd } items) w Q := fun hn hb hp hi a ha => by
  simp only [planB, Plan.at_, Plan.ops, Bool.and_eq_true, List.cons.injEq] at hp hi
  refine wpAnyK_first (oi := { dst := d, op := o, type := ty, pos := po, after := af, guard := gd }) (v := v) (by simpa using hi.1) (Region.noSelect_spec hn) (fun c a w => hb c a _ _ w) hp.1.2 _ l a w (Region.free_spec (by simpa using hi.1) hp.1.1.1) (by simpa using hp.1.1.2) ?_ hS (kk hn hb hp.2 hi.2 _ (hL a ha))
  rcases hw with ⟨hw, h⟩ | ⟨hw, rfl⟩
  · exact .inl ⟨hw.wanted (o := { dst := d, op := o, type := ty, pos := po, after := af, guard := gd }) ha, fun w hSw => h w hSw n a ha _ rfl⟩
  · exact .inr ⟨hw.wanted (o := { dst := d, op := o, type := ty, pos := po, after := af, guard := gd }) ha, rfl⟩
theorem td_val {d : Nat} {v : Value} (hw : Want os L gd true) (hd : d < n) (hS : S w) (h : ∀ w, S w → Does P L o (some v) w w)
    (kk : TD P os n ((d, v) :: L) S k (l.setIfInBounds i true) items w Q) : TD P os n L S k l (.take i { dst := some d, op := o, type := ty, pos := po, after := af, guard := gd } items) w Q :=
  td_put (.inl ⟨hw, h⟩) hS (fun a ha => ha.put hd v) kk
theorem td_skip {d : Option Nat} (hw : Want os L gd false) (hd : d.all (fun t => (L.lookup t).isNone) = true) (hS : S w)
    (kk : TD P os n L S k (l.setIfInBounds i true) items w Q) : TD P os n L S k l (.take i { dst := d, op := o, type := ty, pos := po, after := af, guard := gd } items) w Q :=
  td_put (.inr ⟨hw, rfl⟩) hS (fun a ha => ha.put0 d hd _) kk
theorem td_skipU {d : Nat} (hw : Want os L gd false) (hd : d < n) (hS : S w)
    (kk : TD P os n ((d, undef) :: L) S k (l.setIfInBounds i true) items w Q) : TD P os n L S k l (.take i { dst := some d, op := o, type := ty, pos := po, after := af, guard := gd } items) w Q :=
  td_put (.inr ⟨hw, rfl⟩) hS (fun a ha => ha.put hd _) kk
/-- The way on which operation i comes up now. -/
def TW (P : Program) (os : List Oper) (n : Nat) (L : Env) (S : World → Prop) (k : Nat) (l : Array Bool) (i : Nat) (o : Oper) (r : Plan) (w : World) (Q : Exit → Act → World → Prop) : Prop :=
  os[i]? = some o → ∀ a, At n L a → wpOp P os.toArray Q i (fun a' w' => (i = k ∨ S w') ∧ ∃ L', At n L' a' ∧ TD P os n L' S k (l.setIfInBounds i true) r w' Q) a w
theorem td_one {o : Oper} (h : TW P os n L S k l i o items w Q) : TD P os n L S k l (.one i o items) w Q := fun hn hb hp hi a ha => by
  simp only [planB, Plan.at_, Plan.ops, Bool.and_eq_true, List.cons.injEq, beq_iff_eq] at hp hi
  refine ⟨fun h0 => (by rw [hp.1] at h0; cases h0), fun j hj => ?_⟩
  rw [hp.1] at hj
  obtain rfl : j = i := by simpa using hj
  exact wpOp_mono (fun a' w' ⟨h1, L', h2, h3⟩ => ⟨h1, h3 hn hb hp.2 hi.2 a' h2⟩) (h hi.1 a ha)
/-- Either of two may come up. -/
theorem td_two {oi oj : Oper} {r s : Plan} {j : Nat} (h1 : TW P os n L S k l i oi r w Q) (h2 : TW P os n L S k l j oj s w Q) : TD P os n L S k l (.two i oi r j oj s) w Q := fun hn hb hp hi a ha => by
  simp only [planB, Plan.at_, Plan.ops, Bool.and_eq_true, List.cons.injEq, beq_iff_eq] at hp hi
  obtain ⟨e1, e2⟩ := List.append_inj hi.2.2 (Plan.at_len os r)
  refine ⟨fun h0 => (by rw [hp.1.1.1] at h0; cases h0), fun x hx => ?_⟩
  rw [hp.1.1.1] at hx
  have hx' : x = i ∨ x = j := by simpa using hx
  rcases hx' with rfl | rfl
  · exact wpOp_mono (fun a' w' ⟨h1, L', h2, h3⟩ => ⟨h1, h3 hn hb hp.1.2 e1 a' h2⟩) (h1 hi.1 a ha)
  · refine wpOp_mono (fun a' w' ⟨h1, L', h2, h3⟩ => ⟨h1, ?_⟩) (h2 hi.2.1 a ha)
    show wpAnyK _ _ _ _ _ r.len _ _ _
    rw [hp.1.1.2]
    exact h3 hn hb hp.2 e2 a' h2
/-- An operation that comes up alone and is not wanted. -/
theorem td_idle {d : Option Nat} (hw : Want os L gd false) (hd : d.all (fun t => decide (t < n)) = true) (hS : S w)
    (kk : TD P os n (consd d undef L) S k (l.setIfInBounds i true) items w Q) : TW P os n L S k l i { dst := d, op := o, type := ty, pos := po, after := af, guard := gd } items w Q := fun hi a ha => by
  have hw' := hw.wanted (o := { dst := d, op := o, type := ty, pos := po, after := af, guard := gd }) ha
  unfold wpOp
  simp only [List.getElem?_toArray, hi, hw', Bool.false_eq_true, if_false]
  refine ⟨.inr hS, _, ?_, kk⟩
  cases d with
  | none => exact ha
  | some d => exact ha.put (by simpa using hd) _
theorem td_alone {o : Oper} (hw : Want os L o.guard true)
    (h : ∀ a, At n L a → ∀ K : Act → World → Prop, (∀ L' w', ((i = k ∨ S w') ∧ TD P os n L' S k (l.setIfInBounds i true) items w' Q) → ∀ a', At n L' a' → K a' w') → o.wp P a w K Q) : TW P os n L S k l i o items w Q := fun hi a ha => by
  have hw' := hw.wanted ha
  unfold wpOp
  simp only [List.getElem?_toArray, hi, hw', if_true]
  exact .inl (h a ha _ fun L' w' hT a' ha' => ⟨hT.1, L', ha', hT.2⟩)
theorem td_does {d : Nat} {v : Value} (hw : Want os L gd true) (hd : d < n) (h : Does P L o (some v) w w') (hS' : i = k ∨ S w') (hSS : ∀ w, S' w → S w)
    (kk : TD P os n ((d, v) :: L) S' k (l.setIfInBounds i true) items w' Q) : TW P os n L S k l i { dst := some d, op := o, type := ty, pos := po, after := af, guard := gd } items w Q :=
  td_alone hw fun a ha K hK => by
    unfold Oper.wp
    rw [h n a ha _ rfl]
    exact hK _ w' ⟨hS', td_more hSS kk⟩ _ (ha.put hd v)
theorem td_unit (hw : Want os L gd true) (h : Does P L o none w w') (hS' : i = k ∨ S w') (hSS : ∀ w, S' w → S w)
    (kk : TD P os n L S' k (l.setIfInBounds i true) items w' Q) : TW P os n L S k l i { dst := none, op := o, type := ty, pos := po, after := af, guard := gd } items w Q :=
  td_alone hw fun a ha K hK => by
    unfold Oper.wp
    rw [h n a ha _ rfl]
    exact hK _ w' ⟨hS', td_more hSS kk⟩ _ ha
theorem td_call {d : Option Nat} {f : FuncId} {args : Array Value} {R : Ending → World → Prop} (hw : Want os L gd true) (hd : d.all (fun t => decide (t < n)) = true)
    (he : Enters P L o f args w) (hc : Calls P f args w R) (ret : ∀ v w', R (.returned v) w' → (i = k ∨ S w') ∧ TD P os n (consd d v L) S k (l.setIfInBounds i true) items w' Q)
    (pan : ∀ ch w', R (.panicked ch) w' → TX n L Q (.panic ch) w') (out : ∀ w', R .outgrown w' → False) : TW P os n L S k l i { dst := d, op := o, type := ty, pos := po, after := af, guard := gd } items w Q :=
  td_alone hw fun a ha K hK => by
    unfold Oper.wp
    rw [he n a ha _ rfl]
    refine hc.mono fun e w'' hR => ?_
    cases e with
    | returned v =>
      refine hK _ w'' (ret v w'' hR) _ ?_
      cases d with
      | none => exact ha
      | some d => exact ha.put (by simpa using hd) v
    | panicked ch => exact pan ch w'' hR _ ha
    | outgrown => exact (out w'' hR).elim
end
end
end Go.Proofs.YtfmpbbeacpdalaaDoor

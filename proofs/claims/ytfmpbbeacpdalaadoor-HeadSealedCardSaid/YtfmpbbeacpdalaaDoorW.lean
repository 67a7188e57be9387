/-
  Words of this seat's walks: byte slices that read as lists of bytes; what a call makes of its own.
-/
import Derived.Test.YtfmpbbeacpdalaaDoorRows
import Derived.WalkKit
import Derived.WalkSpells
import Derived.WalkLawsBesides
import Derived.Deep.LoopGhost
import Derived.Lib.Hide
import Derived.Deep.OwnRows
import Derived.BigQuiet
import Derived.Deep.QuietTactic
set_option linter.unusedVariables false
set_option linter.unusedSimpArgs false
namespace Go.Proofs.YtfmpbbeacpdalaaDoor
open Go.RowKit


/-- A list of bytes as cells. -/
def bs (l : List UInt8) : List Value := l.map fun b => .int .u8 (b.toNat : Int)
theorem bs_length (l : List UInt8) : (bs l).length = l.length := by simp [bs]
theorem bs_append (l m : List UInt8) : bs (l ++ m) = bs l ++ bs m := by simp [bs]
theorem bs_one (l : List UInt8) : ∀ u ∈ bs l, u.oneCell' = true := by
  intro u hu
  simp only [bs, List.mem_map] at hu
  obtain ⟨b, _, rfl⟩ := hu
  rfl
theorem bs_get (l : List UInt8) (j : Nat) (u : Value) (h : (bs l)[j]? = some u) : ∃ hj : j < l.length, u = .int .u8 (l[j].toNat : Int) := by
  have hj : j < l.length := by
    rcases Nat.lt_or_ge j l.length with h1 | h1
    · exact h1
    · rw [List.getElem?_eq_none (by rw [bs_length]; exact h1)] at h
      exact absurd h (by simp)
  refine ⟨hj, ?_⟩
  simp only [bs, List.getElem?_map, List.getElem?_eq_getElem hj, Option.map_some] at h
  exact (Option.some.inj h).symm

theorem add_plain (b o j : Nat) : (⟨b, o, none⟩ : Addr).add j = ⟨b, o + j, none⟩ := by unfold Addr.add; split <;> simp_all

/-- A slice's address and capacity, and what it reads as: bytes. -/
structure Rd (w : World) (A : Option Addr) (c : Nat) (l : List UInt8) : Prop where
  le : l.length ≤ c
  max : c ≤ 9223372036854775807
  nil : A = none → c = 0
  form : ∀ a, A = some a → 0 < l.length → a.spot = none
  get : ∀ j (h : j < l.length) a, A = some a → w.cell? ⟨a.block, a.off + j, none⟩ = some (.int .u8 (l[j].toNat : Int))

section
variable {w w' : World} {A : Option Addr} {c : Nat} {l : List UInt8}

theorem Rd.len (h : Rd w A c l) : l.length ≤ 9223372036854775807 := Nat.le_trans h.le h.max
theorem Rd.at_ (h : Rd w A c l) {j : Nat} (hj : j < l.length) : ∃ b o, A = some ⟨b, o, none⟩ ∧ w.cell? ⟨b, o + j, none⟩ = some (.int .u8 (l[j].toNat : Int)) := by
  cases A with
  | none => have := h.nil rfl; have := h.le; omega
  | some a =>
    have hf := h.form a rfl (by omega)
    obtain ⟨b, o, s⟩ := a
    simp only at hf
    subst hf
    exact ⟨b, o, rfl, h.get j hj _ rfl⟩
theorem Rd.of_cells (h : Rd w A c l) (hc : ∀ a v, w.cell? a = some v → w'.cell? a = some v) : Rd w' A c l :=
  ⟨h.le, h.max, h.nil, h.form, fun j hj a ha => hc _ _ (h.get j hj a ha)⟩
theorem Rd.below (h : Rd w A c l) (hb : Below w.heap.size w w') : Rd w' A c l :=
  h.of_cells fun a v hv => (hb.cell (World.block_lt_of_cell? w a hv)).trans hv
theorem Rd.alloc (h : Rd w A c l) (o : Obj) : Rd (w.alloc o) A c l := h.below ((Below.refl _ _).alloc (Nat.le_refl _) o)
theorem Rd.drew (h : Rd w A c l) : Rd w.drew A c l := ⟨h.le, h.max, h.nil, h.form, h.get⟩
theorem Rd.drewN (h : Rd w A c l) (n : Nat) : Rd (w.drewN n) A c l := h.of_cells fun a v hv => by simpa using hv
theorem Rd.nilAt (w : World) : Rd w none 0 [] := ⟨Nat.le_refl _, by omega, (fun _ => rfl), (fun _ h _ => by cases h), (fun _ _ _ h => by cases h)⟩
end


/-- A row of the call's own that holds bytes. -/
def OwB (w : World) (base : Nat) (v : Value) (l : List UInt8) : Prop := w.ownsRow base 5 1 v l.length (bs l)

theorem OwB.rd {w : World} {base : Nat} {v : Value} {l : List UInt8} (h : OwB w base v l) : ∃ A c, v = .slice A l.length c ∧ Rd w A c l := by
  have h0 := h
  unfold OwB at h
  rcases h.2 with ⟨rfl, hn⟩ | ⟨g, cap, cur, rfl, hb, hg, hnc, hcm, hcs, ht⟩
  · have : l = [] := List.eq_nil_of_length_eq_zero hn
    subst this
    exact ⟨none, 0, rfl, Rd.nilAt w⟩
  · refine ⟨_, cap, rfl, hnc, by simpa [maxLen] using hcm, (fun e => by cases e), (fun a e _ => by cases e; rfl), ?_⟩
    intro j hj a ha
    cases ha
    have := h.cells (g := g) rfl j (.int .u8 (l[j].toNat : Int)) (by simp [bs, List.getElem?_eq_getElem hj])
    rw [add_plain] at this
    exact this

section
variable {w w' : World} {base : Nat} {v : Value} {l : List UInt8}

theorem OwB.below (h : OwB w base v l) (hb : Below w.heap.size w w') : OwB w' base v l :=
  h.kept (row := none) ⟨hb.os, hb.tape, hb.output, hb.size, fun i hi _ => hb.block i hi⟩ (by cases v.ownBlock <;> simp)
theorem OwB.alloc (h : OwB w base v l) (o : Obj) : OwB (w.alloc o) base v l := World.ownsRow.alloc h o
theorem OwB.lit (w : World) (l : List UInt8) (hl : l.length ≤ 9223372036854775807) (hb : base ≤ w.heap.size) :
    OwB (w.alloc (.cells (bs l).toArray 5)) base (.slice (some ⟨w.heap.size, 0, none⟩) l.length l.length) l := by
  have h := World.ownsRow_lit (base := base) (e := 5) (size := 1) w (bs l).toArray l.length hb (by simpa [maxLen] using hl) (by simp [bs_length])
  simpa [OwB] using h
theorem OwB.lit0 {w0 : World} {k : Nat} (hb : Below base w0 w) (hz : base ≤ w0.heap.size) (hk : w.heap.size = k) : OwB (w.alloc (.cells #[] 5)) base (.slice (some ⟨k, 0, none⟩) 0 0) [] := by
  subst hk
  exact OwB.lit w [] (by decide) (Nat.le_trans hz hb.size)
theorem OwB.mono {b' : Nat} (h : OwB w base v l) (hb : b' ≤ base) : OwB w b' v l := by
  refine ⟨h.1, ?_⟩
  rcases h.2 with h1 | ⟨g, cap, cur, e, hg, r⟩
  · exact .inl h1
  · exact .inr ⟨g, cap, cur, e, Nat.le_trans hb hg, r⟩
theorem OwB.some_ (h : OwB w base v l) (hl : 0 < l.length) : ∃ g c, base ≤ g ∧ v = .slice (some ⟨g, 0, none⟩) l.length c ∧ l.length ≤ c ∧ g < w.heap.size := by
  rcases h.2 with ⟨rfl, hn⟩ | ⟨g, cap, cur, rfl, hb, hg, hnc, hcm, hcs, ht⟩
  · omega
  · exact ⟨g, cap, hb, rfl, hnc, (Array.getElem?_eq_some_iff.1 hg).1⟩
theorem OwB.set {g c n : Nat} (h : OwB w base (.slice (some ⟨g, 0, none⟩) n c) l) {k : Nat} (hk : k < l.length) (x : UInt8) :
    OwB (w.setCell ⟨g, k, none⟩ (.int .u8 (x.toNat : Int))) base (.slice (some ⟨g, 0, none⟩) n c) (l.set k x) := by
  have hn : n = l.length := by
    rcases h.2 with ⟨e, _⟩ | ⟨g', cap, cur, e, _⟩
    · cases e
    · cases e; rfl
  subst hn
  have h2 := World.ownsRow.stored (w := w) (base := base) (e := 5) (size := 1) (g := g) (n := l.length) (cap := c) (xs := bs l) h k (.int .u8 (x.toNat : Int))
  unfold OwB
  rw [List.length_set]
  have h3 : bs (l.set k x) = (bs l).set k (.int .u8 (x.toNat : Int)) := by simp [bs, List.map_set]
  rw [h3]
  exact h2.1
theorem OwB.cell {g c n : Nat} (h : OwB w base (.slice (some ⟨g, 0, none⟩) n c) l) {k : Nat} (hk : k < l.length) :
    w.cell? ⟨g, k, none⟩ = some (.int .u8 (l[k].toNat : Int)) ∧ w.frozen? ⟨g, k, none⟩ = false := by
  have hn : n = l.length := by
    rcases h.2 with ⟨e, _⟩ | ⟨g', cap, cur, e, _⟩
    · cases e
    · cases e; rfl
  subst hn
  refine ⟨?_, World.ownsRow.frozenAt (w := w) (base := base) (e := 5) (size := 1) (xs := bs l) h k⟩
  rw [World.ownsRow.cellAt (w := w) (base := base) (e := 5) (size := 1) (xs := bs l) h k (by omega)]
  simp [bs, List.getElem?_eq_getElem hk]
theorem OwB.block (h : OwB w base v l) (k : Nat) (hk : v.ownBlock = some k) : base ≤ k := (World.ownsRow.lt h k hk).1
end


theorem Tryd.infoB : (Tryd.prog.info? 5).map (fun i => (i.zero, i.size, i.bytes)) = some (some (.int .u8 0), 1, 1) := by kernel_rfl

section
variable {ops : Array Oper} {rest : List Oper} {o : Oper} {a : Act} {Q : Exit → Act → World → Prop}

/-- This very append, and no other. -/
theorem gate_app {P : Program} {w : World} (s x : Operand) {t : Array TypeId} (ho : o.op = .call { callee := .builtin .append, args := #[s, x], argTypes := t }) (h : wpList P ops Q (o :: rest) a w) : wpList P ops Q (o :: rest) a w := h
/-- append of bytes, whatever holds them, to a row of the call's own. -/
theorem wp_app_b {w0 w : World} {K : Act → World → Prop} (s x : Operand)
    (ho : o.op = .call { callee := .builtin .append, args := #[s, x], argTypes := #[24, 24] })
    (base : Nat) (v : Value) (l m : List UInt8) (A : Option Addr) (n c : Nat) (hs : a.eval s = v) (hx : a.eval x = .slice A n c) (hn : n = m.length)
    (hown : OwB w base v l) (hrd : Rd w A c m) (HB : Below base w0 w) (hbase : base ≤ w.heap.size) (hlen : l.length + m.length ≤ 140737488355328)
    (h : ∀ v' w', OwB w' base v' (l ++ m) → Below base w0 w' → w.grownBy w' v.ownBlock → K (a.put o.dst v') w') : o.wp Tryd.prog a w K Q := by
  subst hn
  obtain ⟨i0, hi, hz0, hz1, hz2⟩ := info_parts Tryd.infoB
  cases A with
  | some ad =>
    refine wp_append_own w s x 24 ho base 5 i0 (.int .u8 0) 1 1 Tryd.underlying24 hi hz0 hz1 hz2 rfl (by decide) v l.length (bs l) hs hown ad m.length c (bs m) hx (by simp [bs_length]) ?_ (bs_one m) (by simp only [maxLen]; omega) (by omega) hbase ?_
    · intro j u hu
      obtain ⟨hj, rfl⟩ := bs_get m j u hu
      obtain ⟨b, o', e, hc⟩ := hrd.at_ hj
      cases e
      rw [add_plain]
      exact hc
    · intro v' w' hown' hg _
      refine h v' w' ?_ (HB.grown hg hbase fun k hk => OwB.block hown k hk) hg
      unfold OwB
      rw [bs_append, List.length_append]
      exact hown'
  | none =>
    have hc := hrd.nil rfl
    have hm : m = [] := List.eq_nil_of_length_eq_zero (by have := hrd.le; omega)
    subst hm
    subst hc
    unfold Oper.wp execOp
    simp only [ho, resolve, invoke, builtin, Sem.run_bind, Sem.run_pure, Result.andThen_ok, List.map_toArray, List.map_cons, List.map_nil, hs, hx]
    have hr := run_append_owned_none (P := Tryd.prog) w base 24 o.type 5 i0 1 Tryd.underlying24 hi v l.length (bs l) hown
    simp only [List.length_nil, hr]
    exact h v w (by simpa using hown) HB ⟨rfl, rfl, rfl, Nat.le_refl _, fun _ _ _ => rfl⟩
theorem app_b {w0 w : World} (hgd : o.guard = none) (s x : Operand)
    (ho : o.op = .call { callee := .builtin .append, args := #[s, x], argTypes := #[24, 24] })
    (base : Nat) (v : Value) (l m : List UInt8) (A : Option Addr) (n c : Nat) (hs : a.eval s = v) (hx : a.eval x = .slice A n c) (hn : n = m.length)
    (hown : OwB w base v l) (hrd : Rd w A c m) (HB : Below base w0 w) (hbase : base ≤ w.heap.size) (hlen : l.length + m.length ≤ 140737488355328)
    (h : ∀ v' w', OwB w' base v' (l ++ m) → Below base w0 w' → w.grownBy w' v.ownBlock → wpList Tryd.prog ops Q rest (a.put o.dst v') w') : wpList Tryd.prog ops Q (o :: rest) a w :=
  wpList_plain hgd fun _ hK => wp_app_b s x ho base v l m A n c hs hx hn hown hrd HB hbase hlen fun v' w' h1 h2 h3 => hK _ _ (h v' w' h1 h2 h3)
/-- The same at a step of a region that draws its order. -/
theorem step_app_b {w0 w : World} {K : Act → World → Prop} {E : Prop} (hgd : o.guard = none) (s x : Operand)
    (ho : o.op = .call { callee := .builtin .append, args := #[s, x], argTypes := #[24, 24] })
    (base : Nat) (v : Value) (l m : List UInt8) (A : Option Addr) (n c : Nat) (hs : a.eval s = v) (hx : a.eval x = .slice A n c) (hn : n = m.length)
    (hown : OwB w base v l) (hrd : Rd w A c m) (HB : Below base w0 w) (hbase : base ≤ w.heap.size) (hlen : l.length + m.length ≤ 140737488355328)
    (h : ∀ v' w', OwB w' base v' (l ++ m) → Below base w0 w' → w.grownBy w' v.ownBlock → K (a.put o.dst v') w') :
    if Region.wanted o (yielded ops a.tmps) = true then Oper.wp Tryd.prog o a w K Q else E := by
  have hw : Region.wanted o (yielded ops a.tmps) = true := by simp [Region.wanted, hgd]
  rw [if_pos hw]
  exact wp_app_b s x ho base v l m A n c hs hx hn hown hrd HB hbase hlen h
end


theorem rd_lit (w : World) (l : List UInt8) {cs : Array Value} {n k : Nat} (hcs : cs = (bs l).toArray) (hn : n = l.length) (hk : w.heap.size = k) (hl : l.length ≤ 9223372036854775807) :
    Rd (w.alloc (.cells cs 5)) (some ⟨k, 0, none⟩) n l := by
  subst hcs
  subst hn
  subst hk
  obtain ⟨A, c, h1, h2⟩ := (OwB.lit (base := 0) w l hl (Nat.zero_le _)).rd
  cases h1
  exact h2
section
variable {ops : Array Oper} {rest : List Oper} {o : Oper} {a : Act} {Q : Exit → Act → World → Prop}

/-- append of bytes that are written out. -/
theorem app_lit {w0 w : World} (hgd : o.guard = none) (s x : Operand)
    (ho : o.op = .call { callee := .builtin .append, args := #[s, x], argTypes := #[24, 24] })
    (base : Nat) (v : Value) (l m : List UInt8) (cs : Array Value) (n : Nat) (hs : a.eval s = v) (hx : a.eval x = .slice (some ⟨w.heap.size, 0, none⟩) n n) (hcs : cs = (bs m).toArray) (hn : n = m.length)
    (hown : OwB w base v l) (HB : Below base w0 w) (hbase : base ≤ w.heap.size) (hlen : l.length + m.length ≤ 140737488355328)
    (h : ∀ v' w', OwB w' base v' (l ++ m) → Below base w0 w' → wpList Tryd.prog ops Q rest (a.put o.dst v') w') : wpList Tryd.prog ops Q (o :: rest) a (w.alloc (.cells cs 5)) :=
  app_b hgd s x ho base v l m _ n n hs hx hn (hown.alloc _) (rd_lit w m hcs hn rfl (by omega)) (HB.alloc hbase _) (by simp; omega) hlen (fun v' w' h1 h2 h3 => h v' w' h1 h2)
end

/-- Bytes as a string. -/
def str (l : List UInt8) : ByteArray := ⟨l.toArray⟩
theorem str_inj {l m : List UInt8} : str l = str m ↔ l = m := by
  unfold str
  constructor
  · intro h
    have := congrArg (fun x => x.data.toList) h
    simpa using this
  · intro h; rw [h]
theorem str_loop (l : List UInt8) : ∀ (n i : Nat) (r : List UInt8), i + n = l.length → ByteArray.toList.loop ⟨l.toArray⟩ i r = r.reverse ++ l.drop i := by
  intro n
  induction n with
  | zero => intro i r h; unfold ByteArray.toList.loop; rw [if_neg (by simp [ByteArray.size]; omega)]; rw [List.drop_eq_nil_of_le (by omega)]; simp
  | succ n ih =>
    intro i r h
    unfold ByteArray.toList.loop
    have hi : i < l.length := by omega
    rw [if_pos (by simp [ByteArray.size]; omega), ih (i + 1) _ (by omega)]
    rw [List.drop_eq_getElem_cons hi]
    simp [ByteArray.get!, hi]
theorem str_toList (l : List UInt8) : (str l).toList = l := by
  unfold str ByteArray.toList
  rw [str_loop l l.length 0 [] (by omega)]
  simp
theorem str_eq_dec (a b : List UInt8) : ((str a).toList == (str b).toList) = decide (a = b) := by
  rw [str_toList, str_toList]
  by_cases h : a = b <;> simp [h]
theorem str_ne_true {a b : List UInt8} (h : a = b) : (!(str a).toList == (str b).toList) = false := by rw [str_eq_dec]; simp [h]
theorem str_ne_false {a b : List UInt8} (h : ¬ a = b) : (!(str a).toList == (str b).toList) = true := by rw [str_eq_dec]; simp [h]
theorem run_str {w : World} {A : Option Addr} {c : Nat} {l : List UInt8} (h : Rd w A c l) :
    (convert 24 9 (.slice A l.length c)).run Tryd.prog w = .ok (.string (str l)) w := by
  cases A with
  | none =>
    have hl : l = [] := List.eq_nil_of_length_eq_zero (by have := h.le; have := h.nil rfl; omega)
    subst hl
    exact run_convert_bytes_nil w 24 5 Tryd.underlying24 Tryd.underlying5 0 c 9 Tryd.underlying9
  | some a =>
    by_cases h0 : l = []
    · subst h0
      rw [run_convert_bytes_string w 24 9 5 _ _ c Tryd.underlying24 Tryd.underlying5 Tryd.underlying9]
      have := run_bytesToString (P := Tryd.prog) w a 0 c [] (by simpa using run_loadCells_list (P := Tryd.prog) w a [] (fun j v h => by simp at h))
      simp only [List.foldl_nil] at this
      exact this
    have hf := h.form a rfl (List.length_pos_iff.2 h0)
    obtain ⟨b, o, s⟩ := a
    simp only at hf
    subst hf
    have := run_convert_bytes_arg w 24 5 Tryd.underlying24 Tryd.underlying5 b o l.length c (l.map fun x => (x.toNat : Int)) (by simp) (fun i hi => by
      rw [h.get i hi _ rfl]
      simp [List.getD, List.getElem?_map, List.getElem?_eq_getElem hi]) 9 Tryd.underlying9
    rw [this]
    congr 2
    unfold strOfNums str
    congr 1
    congr 1
    rw [List.map_map]
    conv => rhs; rw [← List.map_id l]
    apply List.map_congr_left
    intro x _
    simp

section
variable {ops : Array Oper} {rest : List Oper} {o : Oper} {a : Act} {Q : Exit → Act → World → Prop}

/-- A conversion of bytes to a string, guarded or not. -/
theorem str_step {w : World} (x : Operand) (hop : o.op = .convert 24 9 x) {A : Option Addr} {n c : Nat} (hw : Region.wanted o (yielded ops a.tmps) = true) {l : List UInt8} (hx : a.eval x = .slice A n c) (hn : n = l.length) (hrd : Rd w A c l)
    (h : wpList Tryd.prog ops Q rest (a.put o.dst (.string (str l))) w) : wpList Tryd.prog ops Q (o :: rest) a w := by
  subst hn
  refine wpList_step fun K hK => ?_
  rw [if_pos hw]
  unfold Oper.wp execOp
  simp only [hop, hx, Sem.run_bind, run_str hrd, Result.andThen_ok, Sem.run_pure]
  exact hK _ _ h
/-- This very conversion, and no other. -/
theorem gate_conv {P : Program} {w : World} (x : Operand) {t u : TypeId} (ho : o.op = .convert t u x) (h : wpList P ops Q (o :: rest) a w) : wpList P ops Q (o :: rest) a w := h
end

theorem below_alloc1 {w W : World} {o : Obj} (h : Below w.heap.size w W) : Below w.heap.size w (W.alloc o) := h.alloc h.size o
theorem Below.step {a b c : World} (h : Below a.heap.size a b) (k : Below b.heap.size b c) : Below a.heap.size a c := h.trans (k.mono h.size)

theorem take_snoc {α : Type} (l : List α) (k : Nat) (h : k < l.length) : l.take (k + 1) = l.take k ++ [l[k]] :=
  List.take_succ_eq_append_getElem h
theorem ret_int {k : IntKind} {a b : Int} (h : a = b) : Ending.returned (.int k a) = .returned (.int k b) := by rw [h]
theorem int_eq {k : IntKind} {a b : Int} (h : a = b) : Value.int k a = .int k b := by rw [h]
theorem bits_xor_u32 (a b : Nat) (ha : a < 4294967296) (hb : b < 4294967296) : bits .xor .u32 (a : Int) (b : Int) = ((a ^^^ b : Nat) : Int) := by
  have ha' : a % 4294967296 = a := Nat.mod_eq_of_lt ha
  have hb' : b % 4294967296 = b := Nat.mod_eq_of_lt hb
  have hx : a ^^^ b < 4294967296 := Nat.xor_lt_two_pow (n := 32) ha hb
  simp only [bits, BitVec.ofInt_natCast, BitVec.toNat_xor, BitVec.toNat_ofNat, IntKind.wrap_u32]
  simp only [IntKind.bits, Nat.reducePow, ha', hb']
  omega
theorem bits_and15_u32 (a : Nat) (ha : a < 4294967296) : bits .and .u32 (a : Int) 15 = ((a % 16 : Nat) : Int) := by
  have ha' : a % 4294967296 = a := Nat.mod_eq_of_lt ha
  have hx : a &&& 15 = a % 16 := Nat.and_two_pow_sub_one_eq_mod a 4
  have : (15 : Int) = ((15 : Nat) : Int) := rfl
  rw [this]
  simp only [bits, BitVec.ofInt_natCast, BitVec.toNat_and, BitVec.toNat_ofNat, IntKind.wrap_u32]
  simp only [IntKind.bits, Nat.reducePow, ha', Nat.reduceMod, hx]
  omega

/-- make([]byte, n). -/
theorem make_b (n : Nat) (hn : n ≤ 140737488355328) (W : World) : (Instr.makeSlice 24 (.int .i64 (n : Int)) (.int .i64 (n : Int))).run Tryd.prog W = .ok (.slice (some ⟨W.heap.size, 0, none⟩) n n) (W.alloc (.cells (madeCells #[.int .u8 0] n) 5)) :=
  run_make_row' 24 5 (.int .u8 0) 1 Tryd.underlying24 Tryd.infoB rfl .i64 .i64 n (by omega) (by omega) W
theorem OwB.made (w : World) (base n : Nat) (hb : base ≤ w.heap.size) (hn : n ≤ 9223372036854775807) :
    OwB (w.alloc (.cells (madeCells #[.int .u8 0] n) 5)) base (.slice (some ⟨w.heap.size, 0, none⟩) n n) (List.replicate n 0) := by
  have h := OwB.lit (base := base) w (List.replicate n 0) (by simpa using hn) hb
  have e : (madeCells #[Value.int .u8 0] n) = (bs (List.replicate n 0)).toArray := by
    apply Array.ext
    · simp [bs, madeCells]
    · intro i h1 h2
      simp [bs, madeCells, Nat.mod_one]
  rw [e]
  simpa using h


theorem Rd.take {w : World} {A : Option Addr} {c : Nat} {l : List UInt8} (h : Rd w A c l) (n : Nat) (hn : n ≤ l.length) : Rd w A c (l.take n) :=
  ⟨by have := h.le; simp; omega, h.max, h.nil, (fun a ha hl => h.form a ha (by simp at hl; omega)), fun j hj a ha => by
    have hj' : j < l.length := by simp at hj; omega
    rw [h.get j hj' a ha]
    simp⟩


/-- Bytes of the call's own are handed back. -/
def RetB (w : World) (l : List UInt8) (e : Ending) (w' : World) : Prop := ∃ v, e = .returned v ∧ OwB w' w.heap.size v l ∧ Below w.heap.size w w'


/-- Bytes of the call's own, seen from an elder world. -/
def RetIn (w : World) (l : List UInt8) (e : Ending) (w' : World) : Prop := ∃ A c, e = .returned (.slice A l.length c) ∧ OwB w' w.heap.size (.slice A l.length c) l ∧ Rd w' A c l ∧ Below w.heap.size w w'
theorem RetB.in_ {w W W' : World} {l : List UInt8} {e : Ending} (hW : Below w.heap.size w W) (h : RetB W l e W') : RetIn w l e W' := by
  obtain ⟨v, rfl, ho, hb⟩ := h
  obtain ⟨A, c, rfl, hr⟩ := ho.rd
  exact ⟨A, c, rfl, ho.mono hW.size, hr, Below.step hW hb⟩


/-- What a slice reads as and an error's number are handed back. -/
def RetT (w : World) (r : List UInt8 × Nat) (e : Ending) (w' : World) : Prop := ∃ A c, e = .returned (.tuple #[.slice A r.1.length c, .int .i64 (r.2 : Int)]) ∧ Rd w' A c r.1 ∧ Below w.heap.size w w'


/-- It has told 'true', and only made memory. -/
def RetTrue (w : World) (e : Ending) (w' : World) : Prop := e = .returned (.bool true) ∧ Below w.heap.size w w'
end Go.Proofs.YtfmpbbeacpdalaaDoor

import Derived.Test.YtilggjefbbiccaaDoorSx
set_option linter.unusedSimpArgs false
set_option linter.unusedVariables false
namespace Go.Sx
open Go

/-! ## what the program's tables say -/
def tyB (P : Program) (t : TypeId) : Option (Bool × Nat) := match P.underlying t, P.info? t with
  | some d, some i => some ((match d with | .struct _ | .array _ _ => true | _ => false), i.size)
  | _, _ => none
class Ty (P : Program) (t : TypeId) (agg : outParam Bool) (n : outParam Nat) : Prop where
  out : tyB P t = some (agg, n)

def fldB (P : Program) (s f : Nat) : Option Nat := match P.underlying s with
  | some (.struct fs) => match fs[f]? with
    | some fd => match P.info? fd.type with
      | some i => if i.size = 0 then none else some fd.offset
      | none => none
    | none => none
  | _ => none
class Fld (P : Program) (s f : Nat) (off : outParam Nat) : Prop where
  out : fldB P s f = some off

def elB (P : Program) (t : TypeId) : Option (Nat × Nat) := match P.underlying t with
  | some (.slice e) => match P.info? e with
    | some i => some (e, i.size)
    | none => none
  | _ => none
class El (P : Program) (t : TypeId) (e n : outParam Nat) : Prop where
  out : elB P t = some (e, n)

class Und (P : Program) (t : TypeId) (d : outParam TypeDesc) : Prop where
  out : P.underlying t = some d

def zeroB (P : Program) (t : TypeId) : Option (List Value) := match P.info? t with
  | some i => match i.zero with
    | some v => some v.cells.toList
    | none => none
  | none => none
class Zero (P : Program) (t : TypeId) (cs : outParam (List Value)) : Prop where
  out : zeroB P t = some cs

def bodyB (P : Program) (f : FuncId) : Bool := match P.funcs[f]? with
  | some fn => fn.body.isSome && !(fn.name == "runtime.NumGoroutine")
  | none => false
class Body (P : Program) (f : FuncId) : Prop where
  out : bodyB P f = true

theorem Ty.und {P : Program} {t : TypeId} {agg : Bool} {n : Nat} (h : Ty P t agg n) : ∃ d i, P.underlying t = some d ∧ P.info? t = some i ∧ i.size = n ∧ (match d with | .struct _ | .array _ _ => true | _ => false) = agg := by
  have := h.out
  unfold tyB at this
  split at this
  · rename_i d i hd hi
    simp only [Option.some.injEq, Prod.mk.injEq] at this
    exact ⟨d, i, hd, hi, this.2, this.1⟩
  · cases this

theorem El.und {P : Program} {t e n : Nat} (h : El P t e n) : P.underlying t = some (.slice e) ∧ ∃ i, P.info? e = some i ∧ i.size = n := by
  have := h.out
  unfold elB at this
  split at this
  · rename_i e' hd
    split at this
    · rename_i i hi
      simp only [Option.some.injEq, Prod.mk.injEq] at this
      obtain ⟨rfl, rfl⟩ := this
      exact ⟨hd, i, hi, rfl⟩
    · cases this
  · cases this

/-! ## operations that leave the world as it is -/
/-- in whatever state of the class, the operation yields v, and the world is as it was -/
def PR (P : Program) (E : Env) (C : World → Prop) (op : Op) (v : Value) : Prop :=
  ∀ (n : Nat) (a : Act) (w : World) (o : Oper), o.op = op → EOk n E a → C w → (execOp a.eval o).run P w = .ok (.value v) w

def intOp (op : BinOp) (k : IntKind) (a b : Int) : Option Value := match op with
  | .add => some (.int k (k.wrap (a + b)))
  | .sub => some (.int k (k.wrap (a - b)))
  | .mul => some (.int k (k.wrap (a * b)))
  | .eql => some (.bool (decide (a = b)))
  | .neq => some (.bool (!decide (a = b)))
  | .lss => some (.bool (decide (a < b)))
  | .leq => some (.bool (decide (a ≤ b)))
  | .gtr => some (.bool (decide (b < a)))
  | .geq => some (.bool (decide (b ≤ a)))
  | _ => none

theorem intOp_run {P : Program} {w : World} {op : BinOp} {t : TypeId} {k : IntKind} {a b : Int} {v : Value} (h : intOp op k a b = some v) : (binOp op t (.int k a) (.int k b)).run P w = .ok v w := by
  cases op <;> simp only [intOp, Option.some.injEq, reduceCtorEq] at h <;> subst h <;> simp [binOp, Op.intArith, Op.intCmp, Sem.run] <;> rfl

theorem eqGuard_int {P : Program} {w : World} {op : BinOp} {t : TypeId} {x y : Operand} {k : IntKind} {a : Int} {v : Value} : (eqGuard op t x y (.int k a) v).run P w = .ok () w := by
  rw [eqGuard_at_int]; rfl

def nthL {α : Type} : List α → Nat → Option α
  | [], _ => none
  | x :: _, 0 => some x
  | _ :: l, i + 1 => nthL l i
theorem nthL_eq {α : Type} : ∀ (l : List α) (i : Nat), nthL l i = l[i]?
  | [], _ => by simp [nthL]
  | x :: l, 0 => by simp [nthL]
  | x :: l, i + 1 => by simp [nthL, nthL_eq l i]

/-- the operations that only compute -/
def pure1 (E : Env) (op : Op) : Option Value := match op with
  | .move x => ev E x
  | .assign x => ev E x
  | .extract x i => match ev E x with
    | some (.tuple vs) => nthL vs.toList i
    | _ => none
  | .pick c a b => match ev E c with
    | some (.bool true) => ev E a
    | some (.bool false) => ev E b
    | _ => none
  | .unOp .not _ x => match ev E x with
    | some (.bool b) => some (.bool (!b))
    | _ => none
  | .unOp .neg _ x => match ev E x with
    | some (.int k a) => some (.int k (k.wrap (0 - a)))
    | _ => none
  | .binOp op _ x y _ => match ev E x with
    | some (.int k a) => match ev E y with
      | some (.int k' b) => if k = k' then intOp op k a b else none
      | _ => none
    | _ => none
  | .makeFunc fn fst cap => match evs E fst.toList with
    | some fs => match evs E cap.toList with
      | some cs => some (.func fn fs.toArray cs.toArray)
      | none => none
    | none => none
  | _ => none

theorem map_evs {n : Nat} {E : Env} {a : Act} (h : EOk n E a) {xs : Array Operand} {vs : List Value} (hx : evs E xs.toList = some vs) : xs.map a.eval = vs.toArray := by
  apply Array.ext'
  simpa using h.evals hx

theorem pr_pure {P : Program} {E : Env} {C : World → Prop} {op : Op} {v : Value} (h : pure1 E op = some v) : PR P E C op v := by
  intro n a w o ho he hw
  unfold execOp
  rw [ho]
  cases op with
  | move x => simp only [pure1] at h; simp [he.eval h]
  | assign x => simp only [pure1] at h; simp [he.eval h]
  | extract x i =>
    simp only [pure1] at h
    split at h
    · rename_i vs hx
      rw [nthL_eq] at h
      have h' : vs[i]? = some v := by simpa using h
      simp [he.eval hx, Instr.extract, h']
    · cases h
  | pick c x y =>
    simp only [pure1] at h
    split at h
    · rename_i hc; simp [he.eval hc, he.eval h, asBool]
    · rename_i hc; simp [he.eval hc, he.eval h, asBool]
    · cases h
  | unOp u t x =>
    cases u with
    | not =>
      simp only [pure1] at h
      split at h
      · rename_i b hx; simp only [Option.some.injEq] at h; subst h; simp [he.eval hx, Op.unary]
      · cases h
    | neg =>
      simp only [pure1] at h
      split at h
      · rename_i k b hx; simp only [Option.some.injEq] at h; subst h; simp [he.eval hx, Op.unary, Op.intArith]
      · cases h
    | _ => simp [pure1] at h
  | binOp u t x y t' =>
    simp only [pure1] at h
    split at h
    · rename_i k b hx
      split at h
      · rename_i k' c hy
        split at h
        · rename_i hk
          subst hk
          simp [he.eval hx, he.eval hy, eqGuard_at_int, intOp_run h]
        · cases h
      · cases h
    · cases h
  | makeFunc fn fst cap =>
    simp only [pure1] at h
    split at h
    · rename_i fs hf
      split at h
      · rename_i cs hc
        simp only [Option.some.injEq] at h; subst h
        simp [map_evs he hf, map_evs he hc, Instr.makeFunc]
      · cases h
    · cases h
  | _ => simp [pure1] at h

theorem run_isAgg {P : Program} {t : TypeId} {agg : Bool} {n : Nat} (h : Ty P t agg n) (w : World) : (isAgg t).run P w = .ok agg w := by
  obtain ⟨d, i, hd, hi, hn, ha⟩ := h.und
  unfold isAgg
  rw [Sem.run_bind, run_underlying hd w]
  cases d <;> simp_all

theorem run_sizeOf {P : Program} {t : TypeId} {agg : Bool} {n : Nat} (h : Ty P t agg n) (w : World) : (sizeOf t).run P w = .ok n w := by
  obtain ⟨d, i, hd, hi, hn, ha⟩ := h.und
  simp [sizeOf, typeInfo, hi, hn]

theorem add_lit' (b o n : Nat) : Addr.add ⟨b, o, none⟩ n = ⟨b, o + n, none⟩ := Addr.add_lit b o n

theorem run_loadVar_one {P : Program} {t n : Nat} (h : Ty P t false n) {w : World} {b o : Nat} {v : Value} (hv : w.cell? ⟨b, o, none⟩ = some v) : (loadVar t ⟨b, o, none⟩).run P w = .ok v w := by
  simp [loadVar, run_isAgg h w, run_load, hv]

theorem run_loadVar_agg {P : Program} {t : Nat} {cs : List Value} (h : Ty P t true cs.length) {w : World} {b o : Nat} (hv : ∀ j v, cs[j]? = some v → w.cell? ⟨b, o + j, none⟩ = some v) :
    (loadVar t ⟨b, o, none⟩).run P w = .ok (.agg cs.toArray) w := by
  have := run_loadCells_list (P := P) w ⟨b, o, none⟩ cs (fun j v hj => by rw [add_lit']; exact hv j v hj)
  simp [loadVar, run_isAgg h w, run_sizeOf h w, this]

section
variable {P : Program} {E : Env} {M : List Nat} {w0 : World} {H0 H : Hp} {L : Blks} {C : World → Prop}

theorem pr_load {t : TypeId} {x : Operand} {b o : Nat} {v : Value} (hx : ev E x = some (.pointer (some ⟨b, o, none⟩))) (h : ∀ w, C w → (loadVar t ⟨b, o, none⟩).run P w = .ok v w) : PR P E C (.load t x) v := by
  intro n a w o' ho he hw
  unfold execOp
  rw [ho]
  simp [he.eval hx, Instr.loadAt, Instr.sureAddr, h w hw]

/-- a one-cell load out of an own block -/
theorem pr_own1 {t k : TypeId} {x : Operand} {b o : Nat} {cs : List Value} {v : Value} (hx : ev E x = some (.pointer (some ⟨b, o, none⟩))) [ht : Ty P t false k] (hL : InL b cs L) (hv : cs[o]? = some v) :
    PR P E (St M w0 H0 H L) (.load t x) v :=
  pr_load hx fun w hw => run_loadVar_one ht (by rw [hw.cell hL o]; exact hv)

/-- a whole own block -/
theorem pr_ownA {t : TypeId} {x : Operand} {b : Nat} {cs : List Value} (hx : ev E x = some (.pointer (some ⟨b, 0, none⟩))) (hL : InL b cs L) {k : Nat} [ht : Ty P t true k] (hk : cs.length = k) :
    PR P E (St M w0 H0 H L) (.load t x) (.agg cs.toArray) :=
  pr_load hx fun w hw => run_loadVar_agg (hk ▸ ht) (fun j v hj => by rw [Nat.zero_add, hw.cell hL j]; exact hj)

/-- a part of an own block -/
theorem pr_ownP {t k : TypeId} {x : Operand} {b o : Nat} {cs ds : List Value} (hx : ev E x = some (.pointer (some ⟨b, o, none⟩))) (hL : InL b cs L) [ht : Ty P t true k] (hk : k = ds.length) (hd : (cs.drop o).take k = ds) :
    PR P E (St M w0 H0 H L) (.load t x) (.agg ds.toArray) := by
  subst hk
  exact pr_load hx fun w hw => run_loadVar_agg ht (fun j v hj => by
    rw [hw.cell hL (o + j)]
    rw [← hd, List.getElem?_take] at hj
    split at hj
    · rwa [List.getElem?_drop] at hj
    · cases hj)

theorem pr_hp1 {t k : TypeId} {x : Operand} {b o : Nat} {v : Value} (hx : ev E x = some (.pointer (some ⟨b, o, none⟩))) [ht : Ty P t false k] (hv : H b o = some v) :
    PR P E (St M w0 H0 H L) (.load t x) v :=
  pr_load hx fun w hw => run_loadVar_one ht (hw.hp _ _ _ hv)

theorem pr_hpA {t : TypeId} {x : Operand} {b o : Nat} {cs : List Value} (hx : ev E x = some (.pointer (some ⟨b, o, none⟩))) {k : Nat} [ht : Ty P t true k] (hk : cs.length = k) (hv : ∀ j v, cs[j]? = some v → H b (o + j) = some v) :
    PR P E (St M w0 H0 H L) (.load t x) (.agg cs.toArray) :=
  pr_load hx fun w hw => run_loadVar_agg (hk ▸ ht) (fun j v hj => hw.hp _ _ _ (hv j v hj))

theorem pr_field {s f off : Nat} {x : Operand} {b o : Nat} (hx : ev E x = some (.pointer (some ⟨b, o, none⟩))) [hf : Fld P s f off] : PR P E C (.fieldAddr s x f) (.pointer (some ⟨b, o + off, none⟩)) := by
  intro n a w o' ho he hw
  unfold execOp
  rw [ho]
  have hf := hf.out
  unfold fldB at hf
  split at hf
  · rename_i fs hs
    split at hf
    · rename_i fd hfd
      split at hf
      · rename_i i hi
        split at hf
        · cases hf
        · rename_i hz
          simp only [Option.some.injEq] at hf
          subst hf
          simp [he.eval hx, Instr.fieldAt, run_underlying hs, hfd, Instr.sureAddr, fieldPlace, sizeOf, typeInfo, hi, hz, add_lit']
      · cases hf
    · cases hf
  · cases hf

theorem pr_index {t e k : Nat} {x y : Operand} {b o len cap : Nat} {kd : IntKind} {i : Int} (hx : ev E x = some (.slice (some ⟨b, o, none⟩) len cap)) (hy : ev E y = some (.int kd i)) [hel : El P t e k] (h0 : 0 ≤ i) (h1 : i < len) :
    PR P E C (.indexAddr t x y) (.pointer (some ⟨b, o + i.toNat * k, none⟩)) := by
  intro n a w o' ho he hw
  unfold execOp
  rw [ho]
  obtain ⟨hu, inf, hi, hs⟩ := hel.und
  simp [he.eval hx, he.eval hy, Instr.indexAt, asIntOf, run_underlying hu, h0, h1, sizeOf, typeInfo, hi, hs, add_lit']

def arrB (P : Program) (t : TypeId) : Option (Nat × Bool × Nat) := match P.underlying t with
  | some (.array len e) => match tyB P e with
    | some (agg, k) => some (len, agg, k)
    | none => none
  | _ => none
class Arr (P : Program) (t : TypeId) (len : outParam Nat) (agg : outParam Bool) (k : outParam Nat) : Prop where
  out : arrB P t = some (len, agg, k)
theorem Arr.und {P : Program} {t : TypeId} {len : Nat} {agg : Bool} {k : Nat} (h : Arr P t len agg k) : ∃ e, P.underlying t = some (.array len e) ∧ Ty P e agg k := by
  have := h.out
  unfold arrB at this
  split at this
  · rename_i len' e hd
    split at this
    · rename_i ag k' ht
      simp only [Option.some.injEq, Prod.mk.injEq] at this
      obtain ⟨rfl, rfl, rfl⟩ := this
      exact ⟨e, hd, ⟨ht⟩⟩
    · cases this
  · cases this

/-- an element of an array variable -/
theorem pr_indexArr {t len k : Nat} {agg : Bool} {x y : Operand} {b o : Nat} {kd : IntKind} {i : Int} (hx : ev E x = some (.pointer (some ⟨b, o, none⟩))) (hy : ev E y = some (.int kd i)) [hel : Arr P t len agg k] (h0 : 0 ≤ i) (h1 : i < len) :
    PR P E C (.indexAddr t x y) (.pointer (some ⟨b, o + i.toNat * k, none⟩)) := by
  intro n a w o' ho he hw
  unfold execOp
  rw [ho]
  obtain ⟨e, hu, ht⟩ := hel.und
  simp [he.eval hx, he.eval hy, Instr.indexAt, Instr.sureAddr, asIntOf, run_underlying hu, h0, h1, run_sizeOf ht, add_lit']

/-- an element of an array value (of one-cell elements) -/
theorem pr_at {t len k : Nat} {x y : Operand} {cs : List Value} {kd : IntKind} {i : Int} {v : Value} (hx : ev E x = some (.agg cs.toArray)) (hy : ev E y = some (.int kd i)) [hel : Arr P t len false k] (h0 : 0 ≤ i) (h1 : i < len) (hv : cs[i.toNat * k]? = some v) :
    PR P E C (.index t x y) v := by
  intro n a w o' ho he hw
  unfold execOp
  rw [ho]
  obtain ⟨e, hu, ht⟩ := hel.und
  simp [he.eval hx, he.eval hy, Instr.index, asIntOf, run_underlying hu, h0, h1, run_sizeOf ht, part, run_isAgg ht, hv]

theorem pr_lenS {c : Call} {t e k : Nat} {x : Operand} {base : Option Addr} {len cap : Nat} (hc : c = { callee := .builtin .len, args := #[x], argTypes := #[t] }) (hx : ev E x = some (.slice base len cap)) [hel : El P t e k] :
    PR P E C (.call c) (.int .i64 len) := by
  intro n a w o' ho he hw
  unfold execOp
  rw [ho]
  obtain ⟨hu, inf, hi, hs⟩ := hel.und
  subst hc
  simp [resolve, invoke, builtin, Builtin.len_, he.eval hx, run_underlying hu, goInt]

theorem pr_lenStr {c : Call} {t : Nat} {x : Operand} {l : List UInt8} (hc : c = { callee := .builtin .len, args := #[x], argTypes := #[t] }) (hx : ev E x = some (.string ⟨l.toArray⟩)) [hu : Und P t .string] :
    PR P E C (.call c) (.int .i64 l.length) := by
  intro n a w o' ho he hw
  unfold execOp
  rw [ho]
  subst hc
  have hsz : (ByteArray.mk l.toArray).size = l.length := by simp [ByteArray.size]
  simp [resolve, invoke, builtin, Builtin.len_, he.eval hx, run_underlying hu.out, goInt, hsz]

theorem wrap64_in {a : Int} (h1 : -9223372036854775808 ≤ a) (h2 : a ≤ 9223372036854775807) : IntKind.i64.wrap a = a := by
  rw [IntKind.wrap_i64]; omega

theorem pr_add {t t' : TypeId} {x y : Operand} {a b : Int} (hx : ev E x = some (.int .i64 a)) (hy : ev E y = some (.int .i64 b)) (h1 : -9223372036854775808 ≤ a + b) (h2 : a + b ≤ 9223372036854775807) : PR P E C (.binOp .add t x y t') (.int .i64 (a + b)) :=
  pr_pure (by simp only [pure1, hx, hy, intOp, if_true, wrap64_in h1 h2])
theorem pr_sub {t t' : TypeId} {x y : Operand} {a b : Int} (hx : ev E x = some (.int .i64 a)) (hy : ev E y = some (.int .i64 b)) (h1 : -9223372036854775808 ≤ a - b) (h2 : a - b ≤ 9223372036854775807) : PR P E C (.binOp .sub t x y t') (.int .i64 (a - b)) :=
  pr_pure (by simp only [pure1, hx, hy, intOp, if_true, wrap64_in h1 h2])
theorem pr_mul {t t' : TypeId} {x y : Operand} {a b : Int} (hx : ev E x = some (.int .i64 a)) (hy : ev E y = some (.int .i64 b)) (h1 : -9223372036854775808 ≤ a * b) (h2 : a * b ≤ 9223372036854775807) : PR P E C (.binOp .mul t x y t') (.int .i64 (a * b)) :=
  pr_pure (by simp only [pure1, hx, hy, intOp, if_true, wrap64_in h1 h2])

/-- the block and the place of a slice's first element -/
def blk : Value → Nat
  | .slice (some a) _ _ => a.block
  | _ => 0
def off : Value → Nat
  | .slice (some a) _ _ => a.off
  | _ => 0

/-- the slice v reads as l: element i holds the cells 'enc l[i]' -/
structure RdSl {α : Type} (H : Hp) (k : Nat) (enc : α → List Value) (v : Value) (l : List α) : Prop where
  len : ∃ a cap, v = .slice a l.length cap
  max : l.length ≤ 9223372036854775807
  addr : l ≠ [] → ∃ cap, v = .slice (some ⟨blk v, off v, none⟩) l.length cap
  get : ∀ i x, l[i]? = some x → ∀ j u, (enc x)[j]? = some u → H (blk v) (off v + i * k + j) = some u
  room : ∀ a n c, v = .slice a n c → l.length ≤ c

theorem RdSl.le {α : Type} {H H' : Hp} {k : Nat} {enc : α → List Value} {v : Value} {l : List α} (h : RdSl H k enc v l) (hl : H.le H') : RdSl H' k enc v l :=
  ⟨h.len, h.max, h.addr, fun i x hx j u hu => hl _ _ _ (h.get i x hx j u hu), h.room⟩

theorem pr_lenSl {α : Type} {c : Call} {t e k k' : Nat} {enc : α → List Value} {x : Operand} {v : Value} {l : List α} (hc : c = { callee := .builtin .len, args := #[x], argTypes := #[t] }) (hx : ev E x = some v) (h : RdSl H k' enc v l) [hel : El P t e k] :
    PR P E C (.call c) (.int .i64 l.length) := by
  obtain ⟨a, cap, rfl⟩ := h.len
  exact pr_lenS hc hx

theorem pr_indexSl {α : Type} {t e k : Nat} {enc : α → List Value} {x y : Operand} {v : Value} {l : List α} {kd : IntKind} {i : Int} (hx : ev E x = some v) (h : RdSl H k enc v l) (hy : ev E y = some (.int kd i)) [hel : El P t e k] (h0 : 0 ≤ i) (h1 : i < l.length) :
    PR P E C (.indexAddr t x y) (.pointer (some ⟨blk v, off v + i.toNat * k, none⟩)) := by
  obtain ⟨cap, hv⟩ := h.addr (by intro e; subst e; simp at h1; omega)
  rw [hv] at hx
  have := pr_index (P := P) (C := C) (t := t) (e := e) (k := k) hx hy h0 h1
  exact this

/-- an element of several cells, loaded whole -/
theorem pr_elA {α : Type} {t k : Nat} {enc : α → List Value} {x : Operand} {v : Value} {l : List α} {i : Nat} {a : α} (h : RdSl H k enc v l) (ha : l[i]? = some a) (hx : ev E x = some (.pointer (some ⟨blk v, off v + i * k, none⟩))) [ht : Ty P t true k] (hk : (enc a).length = k) :
    PR P E (St M w0 H0 H L) (.load t x) (.agg (enc a).toArray) :=
  pr_hpA hx hk (fun j u hu => h.get i a ha j u hu)
theorem pr_el1 {α : Type} {t k k' j : Nat} {enc : α → List Value} {x : Operand} {v u : Value} {l : List α} {i : Nat} {a : α} (h : RdSl H k enc v l) (ha : l[i]? = some a) (hx : ev E x = some (.pointer (some ⟨blk v, off v + i * k + j, none⟩))) [ht : Ty P t false k'] (hu : (enc a)[j]? = some u) :
    PR P E (St M w0 H0 H L) (.load t x) u :=
  pr_hp1 hx (h.get i a ha j u hu)

/-- an element of one cell -/
theorem pr_el0 {α : Type} {t k k' : Nat} {enc : α → List Value} {x : Operand} {v u : Value} {l : List α} {i : Nat} {a : α} (h : RdSl H k enc v l) (ha : l[i]? = some a) (hx : ev E x = some (.pointer (some ⟨blk v, off v + i * k, none⟩))) [ht : Ty P t false k'] (hu : (enc a)[0]? = some u) :
    PR P E (St M w0 H0 H L) (.load t x) u :=
  pr_hp1 hx (h.get i a ha 0 u hu)
theorem pr_el2 {α : Type} {t k k' j j2 : Nat} {enc : α → List Value} {x : Operand} {v u : Value} {l : List α} {i : Nat} {a : α} (h : RdSl H k enc v l) (ha : l[i]? = some a) (hx : ev E x = some (.pointer (some ⟨blk v, off v + i * k + j + j2, none⟩))) [ht : Ty P t false k'] (hu : (enc a)[j + j2]? = some u) :
    PR P E (St M w0 H0 H L) (.load t x) u :=
  pr_hp1 hx (by rw [Nat.add_assoc]; exact h.get i a ha (j + j2) u hu)
theorem pr_el3 {α : Type} {t k k' j j2 j3 : Nat} {enc : α → List Value} {x : Operand} {v u : Value} {l : List α} {i : Nat} {a : α} (h : RdSl H k enc v l) (ha : l[i]? = some a) (hx : ev E x = some (.pointer (some ⟨blk v, off v + i * k + j + j2 + j3, none⟩))) [ht : Ty P t false k'] (hu : (enc a)[j + j2 + j3]? = some u) :
    PR P E (St M w0 H0 H L) (.load t x) u :=
  pr_hp1 hx (by rw [Nat.add_assoc, Nat.add_assoc, ← Nat.add_assoc j]; exact h.get i a ha (j + j2 + j3) u hu)
/-- a part of an element, of several cells -/
theorem pr_elP {α : Type} {t k k' j : Nat} {enc : α → List Value} {x : Operand} {v : Value} {l : List α} {i : Nat} {a : α} {ds : List Value} (h : RdSl H k enc v l) (ha : l[i]? = some a) (hx : ev E x = some (.pointer (some ⟨blk v, off v + i * k + j, none⟩))) [ht : Ty P t true k'] (hk : ds.length = k') (hd : ((enc a).drop j).take k' = ds) :
    PR P E (St M w0 H0 H L) (.load t x) (.agg ds.toArray) :=
  pr_hpA hx hk (fun q u hu => by
    rw [Nat.add_assoc]
    refine h.get i a ha (j + q) u ?_
    rw [← hd, List.getElem?_take] at hu
    split at hu
    · rwa [List.getElem?_drop] at hu
    · cases hu)
theorem getSome {α : Type} {l : List α} {i : Int} (h0 : 0 ≤ i) (h1 : i < l.length) : ∃ x, l[i.toNat]? = some x := ⟨l[i.toNat]'(by omega), List.getElem?_eq_getElem (by omega)⟩

/-- a Go string of these bytes -/
def gs (l : List UInt8) : Value := .string ⟨l.toArray⟩
theorem gs_toList (l : List UInt8) : (ByteArray.mk l.toArray).toList = l := by simp [ByteArray.toList_eq]

def strOp (op : BinOp) (a b : List UInt8) : Option Value := match op with
  | .eql => some (.bool (decide (a = b)))
  | .neq => some (.bool (!decide (a = b)))
  | .lss => some (.bool (Op.bytesLess a b))
  | .leq => some (.bool (Op.bytesLess a b || decide (a = b)))
  | .gtr => some (.bool (!(Op.bytesLess a b || decide (a = b))))
  | .geq => some (.bool (!Op.bytesLess a b))
  | _ => none

theorem pr_str {op : BinOp} {t t' : TypeId} {x y : Operand} {a b : List UInt8} {v : Value} (hx : ev E x = some (gs a)) (hy : ev E y = some (gs b)) (h : strOp op a b = some v) : PR P E C (.binOp op t x y t') v := by
  intro n ac w o ho he hw
  unfold execOp
  rw [ho]
  have hbeq : (a == b) = decide (a = b) := by rw [Bool.eq_iff_iff]; simp
  cases op <;> simp only [strOp, Option.some.injEq, reduceCtorEq] at h <;> subst h <;>
    simp [he.eval hx, he.eval hy, gs, eqGuard_at_string, eqGuard, binOp, Op.stringOp, gs_toList, hbeq]

end
end Go.Sx

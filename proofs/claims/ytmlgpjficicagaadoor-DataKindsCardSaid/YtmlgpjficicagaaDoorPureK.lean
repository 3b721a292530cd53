import Derived.Test.YtmlgpjficicagaaDoorPureT
set_option linter.unusedVariables false
namespace Go.Sx
open Go
/-! ## kinds -/
theorem pair_ret {a b : Int} {p : Int × Int} (h : p = (a, b)) : Value.tuple #[.int .i64 a, .int .i64 b] = .tuple #[.int .i64 p.1, .int .i64 p.2] := by rw [h]
def pairV (p : Int × Int) : Value := .tuple #[.int .i64 p.1, .int .i64 p.2]

def heldS (env : List Typing) (name : Str) : Int × Int := match env with
  | [] => (0, 501)
  | t :: r => if t.name = name then (if t.kind < 0 ∨ 5 < t.kind then (0, 502) else (t.kind, 0)) else heldS r name

theorem held_skip {env : List Typing} {name : Str} {k : Int} {x : Typing} (hk : 0 ≤ k) (h : heldS env name = heldS (env.drop k.toNat) name) (hx : env[k.toNat]? = some x) (hne : ¬ x.name = name) : heldS env name = heldS (env.drop (k + 1).toNat) name := by
  rw [h, drop_at hk hx]; simp [heldS, hne]
theorem held_at {env : List Typing} {name : Str} {k : Int} {x : Typing} (hk : 0 ≤ k) (h : heldS env name = heldS (env.drop k.toNat) name) (hx : env[k.toNat]? = some x) (he : x.name = name) : heldS env name = if x.kind < 0 ∨ 5 < x.kind then (0, 502) else (x.kind, 0) := by
  rw [h, drop_at hk hx]; simp [heldS, he]
theorem held_end {env : List Typing} {name : Str} {k : Int} (h : heldS env name = heldS (env.drop k.toNat) name) (hk : ¬ k < env.length) : heldS env name = (0, 501) := by
  rw [h, drop_end hk]; simp [heldS]

def askW (k : Int) : Int × Int × Int :=
  if 6 ≤ k ∧ k ≤ 10 then (1, 1, 1) else if k = 12 then (1, 1, 2) else if k = 13 ∨ k = 14 then (2, 2, 2) else if k = 15 then (2, -1, 2) else if k = 16 then (-2, -1, 1)
  else if k = 17 then (4, 1, 1) else if k = 18 then (4, 1, 4) else if k = 19 then (3, 3, 3) else if k = 11 then (-2, -2, 2) else if k = 1 then (-1, -1, 1)
  else if k = 2 then (-1, -1, 2) else if k = 3 then (-1, -1, 3) else if k = 4 then (-1, -1, 4) else (-1, -1, 0)

theorem askW_0 {k : Int} (h : 6 ≤ k ∧ k ≤ 10) : askW k = (1, 1, 1) := by
  unfold askW; rw [if_pos (by omega)]
theorem askW_1 {k : Int} (h : k = 12) : askW k = (1, 1, 2) := by
  unfold askW; rw [if_neg (by omega)]; rw [if_pos (by omega)]
theorem askW_2 {k : Int} (h : k = 13 ∨ k = 14) : askW k = (2, 2, 2) := by
  unfold askW; rw [if_neg (by omega)]; rw [if_neg (by omega)]; rw [if_pos (by omega)]
theorem askW_3 {k : Int} (h : k = 15) : askW k = (2, -1, 2) := by
  unfold askW; rw [if_neg (by omega)]; rw [if_neg (by omega)]; rw [if_neg (by omega)]; rw [if_pos (by omega)]
theorem askW_4 {k : Int} (h : k = 16) : askW k = (-2, -1, 1) := by
  unfold askW; rw [if_neg (by omega)]; rw [if_neg (by omega)]; rw [if_neg (by omega)]; rw [if_neg (by omega)]; rw [if_pos (by omega)]
theorem askW_5 {k : Int} (h : k = 17) : askW k = (4, 1, 1) := by
  unfold askW; rw [if_neg (by omega)]; rw [if_neg (by omega)]; rw [if_neg (by omega)]; rw [if_neg (by omega)]; rw [if_neg (by omega)]; rw [if_pos (by omega)]
theorem askW_6 {k : Int} (h : k = 18) : askW k = (4, 1, 4) := by
  unfold askW; rw [if_neg (by omega)]; rw [if_neg (by omega)]; rw [if_neg (by omega)]; rw [if_neg (by omega)]; rw [if_neg (by omega)]; rw [if_neg (by omega)]; rw [if_pos (by omega)]
theorem askW_7 {k : Int} (h : k = 19) : askW k = (3, 3, 3) := by
  unfold askW; rw [if_neg (by omega)]; rw [if_neg (by omega)]; rw [if_neg (by omega)]; rw [if_neg (by omega)]; rw [if_neg (by omega)]; rw [if_neg (by omega)]; rw [if_neg (by omega)]; rw [if_pos (by omega)]
theorem askW_8 {k : Int} (h : k = 11) : askW k = (-2, -2, 2) := by
  unfold askW; rw [if_neg (by omega)]; rw [if_neg (by omega)]; rw [if_neg (by omega)]; rw [if_neg (by omega)]; rw [if_neg (by omega)]; rw [if_neg (by omega)]; rw [if_neg (by omega)]; rw [if_neg (by omega)]; rw [if_pos (by omega)]
theorem askW_9 {k : Int} (h : k = 1) : askW k = (-1, -1, 1) := by
  unfold askW; rw [if_neg (by omega)]; rw [if_neg (by omega)]; rw [if_neg (by omega)]; rw [if_neg (by omega)]; rw [if_neg (by omega)]; rw [if_neg (by omega)]; rw [if_neg (by omega)]; rw [if_neg (by omega)]; rw [if_neg (by omega)]; rw [if_pos (by omega)]
theorem askW_10 {k : Int} (h : k = 2) : askW k = (-1, -1, 2) := by
  unfold askW; rw [if_neg (by omega)]; rw [if_neg (by omega)]; rw [if_neg (by omega)]; rw [if_neg (by omega)]; rw [if_neg (by omega)]; rw [if_neg (by omega)]; rw [if_neg (by omega)]; rw [if_neg (by omega)]; rw [if_neg (by omega)]; rw [if_neg (by omega)]; rw [if_pos (by omega)]
theorem askW_11 {k : Int} (h : k = 3) : askW k = (-1, -1, 3) := by
  unfold askW; rw [if_neg (by omega)]; rw [if_neg (by omega)]; rw [if_neg (by omega)]; rw [if_neg (by omega)]; rw [if_neg (by omega)]; rw [if_neg (by omega)]; rw [if_neg (by omega)]; rw [if_neg (by omega)]; rw [if_neg (by omega)]; rw [if_neg (by omega)]; rw [if_neg (by omega)]; rw [if_pos (by omega)]
theorem askW_12 {k : Int} (h : k = 4) : askW k = (-1, -1, 4) := by
  unfold askW; rw [if_neg (by omega)]; rw [if_neg (by omega)]; rw [if_neg (by omega)]; rw [if_neg (by omega)]; rw [if_neg (by omega)]; rw [if_neg (by omega)]; rw [if_neg (by omega)]; rw [if_neg (by omega)]; rw [if_neg (by omega)]; rw [if_neg (by omega)]; rw [if_neg (by omega)]; rw [if_neg (by omega)]; rw [if_pos (by omega)]
theorem askW_d {k : Int} (h : ¬ (6 ≤ k ∧ k ≤ 19) ∧ ¬ (1 ≤ k ∧ k ≤ 4)) : askW k = (-1, -1, 0) := by
  unfold askW; rw [if_neg (by omega)]; rw [if_neg (by omega)]; rw [if_neg (by omega)]; rw [if_neg (by omega)]; rw [if_neg (by omega)]; rw [if_neg (by omega)]; rw [if_neg (by omega)]; rw [if_neg (by omega)]; rw [if_neg (by omega)]; rw [if_neg (by omega)]; rw [if_neg (by omega)]; rw [if_neg (by omega)]; rw [if_neg (by omega)]
theorem asked_ret {k a b c : Int} (h : askW k = (a, b, c)) : Value.tuple #[.agg [.int .i64 a, .int .i64 b].toArray, .int .i64 c] = .tuple #[.agg #[.int .i64 (askW k).1, .int .i64 (askW k).2.1], .int .i64 (askW k).2.2] := by rw [h]

/-- the two operands' kinds are compared with what is asked for -/
def kFin1 (w g : Int) : Bool := decide (0 ≤ w) && !decide (g = w)
def kFin2 (k ga gb : Int) : Bool := (decide (k = 11) && (!decide (ga = gb) || decide (ga = 5))) || (decide (k = 16) && (!decide (ga = 3) && !decide (ga = 4)))
def kFinB (k ga gb : Int) : Int × Int := if kFin2 k ga gb then (0, 502) else ((askW k).2.2, 0)
def kFin (k ga gb : Int) : Int × Int := if kFin1 (askW k).1 ga then (0, 502) else if kFin1 (askW k).2.1 gb then (0, 502) else kFinB k ga gb

/-- an operand's kind: (0, 0) where none is asked for -/
def kOp (w : Int) (r : Int × Int) : Int × Int := if w = -1 then (0, 0) else r

def kOf (l : List Term) (env : List Typing) : Nat → Int → Int × Int
  | 0, _ => (0, 0)
  | f + 1, at_ => match l[at_.toNat]? with
    | none => (0, 0)
    | some t => if t.kind = 0 then heldS env t.name else
      let a := kOp (askW t.kind).1 (kOf l env f t.l)
      if a.2 ≠ 0 then (0, a.2) else
      let b := kOp (askW t.kind).2.1 (kOf l env f t.r)
      if b.2 ≠ 0 then (0, b.2) else kFin t.kind a.1 b.1

theorem kOf_var {l : List Term} {env : List Typing} {f : Nat} {at_ : Int} {t : Term} (hx : l[at_.toNat]? = some t) (h : t.kind = 0) : kOf l env (f + 1) at_ = heldS env t.name := by
  simp only [kOf, hx]; rw [if_pos h]
theorem kOf_a {l : List Term} {env : List Typing} {f : Nat} {at_ : Int} {t : Term} (hx : l[at_.toNat]? = some t) (h : ¬ t.kind = 0) (ha : ¬ (kOp (askW t.kind).1 (kOf l env f t.l)).2 = 0) : kOf l env (f + 1) at_ = (0, (kOp (askW t.kind).1 (kOf l env f t.l)).2) := by
  simp only [kOf, hx]; rw [if_neg h, if_pos ha]
theorem kOf_b {l : List Term} {env : List Typing} {f : Nat} {at_ : Int} {t : Term} (hx : l[at_.toNat]? = some t) (h : ¬ t.kind = 0) (ha : (kOp (askW t.kind).1 (kOf l env f t.l)).2 = 0) (hb : ¬ (kOp (askW t.kind).2.1 (kOf l env f t.r)).2 = 0) : kOf l env (f + 1) at_ = (0, (kOp (askW t.kind).2.1 (kOf l env f t.r)).2) := by
  simp only [kOf, hx]; rw [if_neg h, if_neg (by simpa using ha), if_pos hb]
theorem kOf_f {l : List Term} {env : List Typing} {f : Nat} {at_ : Int} {t : Term} (hx : l[at_.toNat]? = some t) (h : ¬ t.kind = 0) (ha : (kOp (askW t.kind).1 (kOf l env f t.l)).2 = 0) (hb : (kOp (askW t.kind).2.1 (kOf l env f t.r)).2 = 0) : kOf l env (f + 1) at_ = kFin t.kind (kOp (askW t.kind).1 (kOf l env f t.l)).1 (kOp (askW t.kind).2.1 (kOf l env f t.r)).1 := by
  simp only [kOf, hx]; rw [if_neg h, if_neg (by simpa using ha), if_neg (by simpa using hb)]

/-- a valid tree at 'at_' (of at most f levels) -/
def Tr (l : List Term) : Nat → Int → Prop
  | 0, _ => False
  | f + 1, at_ => 0 ≤ at_ ∧ ∃ t, l[at_.toNat]? = some t ∧ 0 ≤ operandsI t.kind ∧ fieldsB t = true ∧ (1 ≤ operandsI t.kind → Tr l f t.l) ∧ (operandsI t.kind < 1 → t.l = -1) ∧ (2 ≤ operandsI t.kind → Tr l f t.r) ∧ (operandsI t.kind < 2 → t.r = -1)

theorem kind_cases {k : Int} (h0 : 0 ≤ operandsI k) : k = 0 ∨ k = 1 ∨ k = 2 ∨ k = 3 ∨ k = 4 ∨ k = 5 ∨ k = 6 ∨ k = 7 ∨ k = 8 ∨ k = 9 ∨ k = 10 ∨ k = 11 ∨ k = 12 ∨ k = 13 ∨ k = 14 ∨ k = 15 ∨ k = 16 ∨ k = 17 ∨ k = 18 ∨ k = 19 := by
  unfold operandsI at h0
  split at h0
  · omega
  · omega
theorem askW_a {k : Int} (h0 : 0 ≤ operandsI k) (h : ¬ (askW k).1 = -1) : 1 ≤ operandsI k := by
  revert h
  rcases kind_cases h0 with rfl | rfl | rfl | rfl | rfl | rfl | rfl | rfl | rfl | rfl | rfl | rfl | rfl | rfl | rfl | rfl | rfl | rfl | rfl | rfl <;> decide
theorem askW_b {k : Int} (h0 : 0 ≤ operandsI k) (h : ¬ (askW k).2.1 = -1) : 2 ≤ operandsI k := by
  revert h
  rcases kind_cases h0 with rfl | rfl | rfl | rfl | rfl | rfl | rfl | rfl | rfl | rfl | rfl | rfl | rfl | rfl | rfl | rfl | rfl | rfl | rfl | rfl <;> decide

/-- kind.Of -/
def ofS (l : List Term) (root : Int) (env : List Typing) : Int × Int := if mayB l root then kOf l env (root.toNat + 1) root else (0, 500)

/-! the reference -/
def mx1 (k a b : Int) : Bool := decide (k ≤ 10) && (decide (a = 1) && decide (b = 1))
def mx2 (k a b : Int) : Bool := (decide (k = 11) && (decide (a = b) && !decide (a = 5))) || (decide (k = 12) && (decide (a = 1) && decide (b = 1)))
def mx3 (k a b : Int) : Bool := ((decide (k = 13) || decide (k = 14)) && (decide (a = 2) && decide (b = 2))) || (decide (k = 15) && decide (a = 2))
def mx4 (k a b : Int) : Bool := (decide (k = 16) && (decide (a = 3) || decide (a = 4))) || (decide (k = 17) && (decide (a = 4) && decide (b = 1)))
def mx5 (k a b : Int) : Bool := decide (k = 18) && (decide (a = 4) && decide (b = 1))
def mx6 (k a b : Int) : Bool := decide (k = 19) && (decide (a = 3) && decide (b = 3))
def mixedI (k a b : Int) : Int × Int := if mx1 k a b then (1, 0) else if mx2 k a b then (2, 0) else if mx3 k a b then (2, 0) else if mx4 k a b then (1, 0) else if mx5 k a b then (4, 0) else if mx6 k a b then (3, 0) else (0, 502)
def leafK (t : Term) (env : List Typing) : Int × Int := if t.kind = 0 then heldS env t.name else if t.kind = 1 then (1, 0) else if t.kind = 2 then (2, 0) else if t.kind = 3 then (3, 0) else if t.kind = 4 then (4, 0) else (0, 0)
def kRef (l : List Term) (env : List Typing) : Nat → Int → Int × Int
  | 0, _ => (0, 0)
  | f + 1, at_ => match l[at_.toNat]? with
    | none => (0, 0)
    | some t => if operandsI t.kind = 0 then leafK t env else
      if (kRef l env f t.l).2 ≠ 0 then (0, (kRef l env f t.l).2) else
      if operandsI t.kind = 2 then (if (kRef l env f t.r).2 ≠ 0 then (0, (kRef l env f t.r).2) else mixedI t.kind (kRef l env f t.l).1 (kRef l env f t.r).1)
      else mixedI t.kind (kRef l env f t.l).1 0

def nameB (t : Term) : Bool := if t.kind = 0 then nameMay t.name else decide (t.name = [])
def numB (t : Term) : Bool := decide (t.n = 0) || (decide (t.kind = 1) || (decide (t.kind = 2) && decide (t.n = 1)))
def textB (t : Term) : Bool := decide (t.text = []) || (decide (t.kind = 3) && decide ((t.text.length : Int) ≤ 24))
def formB (t : Term) : Bool := decide (operandsI t.kind < 0) || ((decide (operandsI t.kind < 2) && !decide (t.r = -1)) || (decide (operandsI t.kind < 1) && !decide (t.l = -1)))
def aloneB (t : Term) : Bool := !formB t && (nameB t && (numB t && textB t))

/-! the reference's tree: of each place how deep it stands -/
def treeOp (d : List Int) (i at_ : Int) : Option (List Int) :=
  if at_ < 0 ∨ i ≤ at_ ∨ 0 < d[at_.toNat]?.getD 0 then none else some (d.set at_.toNat (d[i.toNat]?.getD 0 + 1))
def treeOps (d : List Int) (i : Int) (t : Term) : Option (List Int) :=
  if operandsI t.kind ≤ 0 then some d else match treeOp d i t.l with
    | none => none
    | some d1 => if operandsI t.kind ≤ 1 then some d1 else treeOp d1 i t.r
def treeStep (l : List Term) (i : Int) (d : List Int) : Option (List Int) :=
  if d[i.toNat]?.getD 0 = 0 then some d else match l[i.toNat]? with
    | none => none
    | some t => if aloneB t = false ∨ 24 < d[i.toNat]?.getD 0 then none else treeOps d i t
def treeLoop (l : List Term) : Nat → List Int → Option (List Int)
  | 0, d => some d
  | n + 1, d => match treeStep l n d with
    | none => none
    | some d' => treeLoop l n d'
def treeS (l : List Term) (root : Int) : Option (List Int) :=
  if (160 : Int) < l.length ∨ root < 0 ∨ (l.length : Int) ≤ root then none else treeLoop l (root + 1).toNat ((List.replicate l.length 0).set root.toNat 1)

def intC (x : Int) : List Value := [.int .i64 x]
theorem ints_get {d : List Int} {i : Nat} (h : i < d.length) : (d.map (Value.int .i64))[0 + i * 1]? = some (.int .i64 (d[i]?.getD 0)) := by
  simp [List.getElem?_eq_getElem h]
theorem ints_set (d : List Int) (i : Nat) (x : Int) : (d.map (Value.int .i64)).set (0 + i * 1) (.int .i64 x) = (d.set i x).map (Value.int .i64) := by
  simp [List.map_set]
theorem reps_zero (n : Nat) : reps n [Value.int .i64 0] = (List.replicate n 0).map (Value.int .i64) := by
  induction n with
  | zero => rfl
  | succ n ih => simp [reps, ih, List.replicate_succ]
theorem RdSl.ints {H : Hp} {b cap : Nat} {d : List Int} (h : ∀ o v, (d.map (Value.int .i64))[o]? = some v → H b o = some v) (hm : d.length ≤ 9223372036854775807) (hcap : d.length ≤ cap := by first | exact Nat.le_refl _ | omega | (simp; done) | (simp; omega)) : RdSl H 1 intC (.slice (some ⟨b, 0, none⟩) d.length cap) d := by
  refine ⟨⟨_, _, rfl⟩, hm, fun _ => ⟨_, rfl⟩, fun i x hx j u hu => ?_, fun a n c e => by injection e with _ _ e; omega⟩
  cases j with
  | zero =>
    simp only [intC, List.getElem?_cons_zero, Option.some.injEq] at hu
    subst hu
    refine h _ _ ?_
    simp [off, hx]
  | succ j => simp [intC] at hu

/-- what the reference's tree hands back -/
def TreeR (r : Option (List Int)) (n : Nat) (v : Value) (H' : Hp) : Prop := match r with
  | none => v = .tuple #[.slice none 0 0, .bool false]
  | some d => ∃ sv, v = .tuple #[sv, .bool true] ∧ RdSl H' 1 intC sv d ∧ d.length = n
theorem treeR_cases {r : Option (List Int)} {n : Nat} {v : Value} {H' : Hp} (h : TreeR r n v H') : (r = none ∧ v = .tuple #[.slice none 0 0, .bool false]) ∨ ∃ d sv, r = some d ∧ v = .tuple #[sv, .bool true] ∧ RdSl H' 1 intC sv d ∧ d.length = n := by
  cases r with
  | none => exact .inl ⟨rfl, h⟩
  | some d => obtain ⟨sv, h1, h2, h3⟩ := h; exact .inr ⟨d, sv, rfl, h1, h2, h3⟩

theorem treeS_F {l : List Term} {root : Int} (h : (160 : Int) < l.length ∨ root < 0 ∨ (l.length : Int) ≤ root) : treeS l root = none := by unfold treeS; rw [if_pos h]
theorem treeS_T {l : List Term} {root : Int} (h : (l.length : Int) ≤ 160 ∧ 0 ≤ root ∧ root < l.length) : treeS l root = treeLoop l (root + 1).toNat ((List.replicate l.length 0).set root.toNat 1) := by unfold treeS; rw [if_neg (by omega)]
theorem treeLoop_succ {l : List Term} {i : Int} {d : List Int} (h0 : 0 ≤ i) : treeLoop l (i + 1).toNat d = match treeStep l i d with | none => none | some d' => treeLoop l i.toNat d' := by
  rw [toNat_succ h0]
  simp only [treeLoop, Int.toNat_of_nonneg h0]
theorem tree_none {l : List Term} {i : Int} {d : List Int} {r : Option (List Int)} (h0 : 0 ≤ i) (h : r = treeLoop l (i + 1).toNat d) (hs : treeStep l i d = none) : r = none := by rw [h, treeLoop_succ h0, hs]
theorem tree_some {l : List Term} {i : Int} {d d' : List Int} {r : Option (List Int)} (h0 : 0 ≤ i) (h : r = treeLoop l (i + 1).toNat d) (hs : treeStep l i d = some d') : r = treeLoop l (i - 1 + 1).toNat d' := by rw [h, treeLoop_succ h0, hs, show i - 1 + 1 = i by omega]
theorem treeStep_0 {l : List Term} {i : Int} {d : List Int} (h : d[i.toNat]?.getD 0 = 0) : treeStep l i d = some d := by unfold treeStep; rw [if_pos h]
theorem treeStep_F {l : List Term} {i : Int} {d : List Int} {t : Term} (hx : l[i.toNat]? = some t) (h : ¬ d[i.toNat]?.getD 0 = 0) (ha : aloneB t = false ∨ 24 < d[i.toNat]?.getD 0) : treeStep l i d = none := by unfold treeStep; rw [if_neg h]; simp only [hx]; rw [if_pos ha]
theorem treeStep_T {l : List Term} {i : Int} {d : List Int} {t : Term} (hx : l[i.toNat]? = some t) (h : ¬ d[i.toNat]?.getD 0 = 0) (ha : aloneB t = true) (h24 : ¬ 24 < d[i.toNat]?.getD 0) : treeStep l i d = treeOps d i t := by
  unfold treeStep; rw [if_neg h]; simp only [hx]; rw [if_neg (by simp [ha]; omega)]
theorem treeOps_0 {d : List Int} {i : Int} {t : Term} (h : operandsI t.kind ≤ 0) : treeOps d i t = some d := by unfold treeOps; rw [if_pos h]
theorem treeOps_n {d : List Int} {i : Int} {t : Term} (h : ¬ operandsI t.kind ≤ 0) (h1 : treeOp d i t.l = none) : treeOps d i t = none := by unfold treeOps; rw [if_neg h, h1]
theorem treeOps_1 {d d1 : List Int} {i : Int} {t : Term} (h : ¬ operandsI t.kind ≤ 0) (h1 : treeOp d i t.l = some d1) (h2 : operandsI t.kind ≤ 1) : treeOps d i t = some d1 := by unfold treeOps; rw [if_neg h, h1]; simp only; rw [if_pos h2]
theorem treeOps_2 {d d1 : List Int} {i : Int} {t : Term} {r : Option (List Int)} (h : ¬ operandsI t.kind ≤ 0) (h1 : treeOp d i t.l = some d1) (h2 : ¬ operandsI t.kind ≤ 1) (h3 : treeOp d1 i t.r = r) : treeOps d i t = r := by unfold treeOps; rw [if_neg h, h1]; simp only; rw [if_neg h2, h3]
theorem treeOp_F {d : List Int} {i at_ : Int} (h : at_ < 0 ∨ i ≤ at_ ∨ 0 < d[at_.toNat]?.getD 0) : treeOp d i at_ = none := by unfold treeOp; rw [if_pos h]
theorem treeOp_T {d : List Int} {i at_ : Int} (h1 : ¬ at_ < 0) (h2 : ¬ i ≤ at_) (h3 : ¬ 0 < d[at_.toNat]?.getD 0) : treeOp d i at_ = some (d.set at_.toNat (d[i.toNat]?.getD 0 + 1)) := by unfold treeOp; rw [if_neg (by omega)]
theorem operandsI_le (k : Int) : operandsI k ≤ 2 := by unfold operandsI; (repeat' split) <;> omega
theorem set_ne {d : List Int} {i j : Nat} {x : Int} (h : j ≠ i) : (d.set j x)[i]?.getD 0 = d[i]?.getD 0 := by simp [h]
/-- every depth is at least 0 -/
def Nn (d : List Int) : Prop := ∀ i : Nat, 0 ≤ d[i]?.getD 0
theorem Nn_set {d : List Int} {j : Nat} {x : Int} (h : Nn d) (hx : 0 ≤ x) : Nn (d.set j x) := by
  intro i
  rw [List.getElem?_set]
  split
  · split
    · simpa using hx
    · simp
  · exact h i
theorem Nn_start (n r : Nat) : Nn ((List.replicate n 0).set r 1) := Nn_set (fun i => by rw [List.getElem?_replicate]; split <;> simp) (by omega)
theorem tree_end {l : List Term} {i : Int} {d : List Int} {r : Option (List Int)} (h : r = treeLoop l (i + 1).toNat d) (h0 : ¬ 0 ≤ i) : r = some d := by
  rw [h, show (i + 1).toNat = 0 by omega]; rfl
end Go.Sx

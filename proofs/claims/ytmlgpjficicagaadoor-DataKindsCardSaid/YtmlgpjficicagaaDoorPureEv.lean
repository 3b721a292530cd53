import Derived.Test.YtmlgpjficicagaaDoorPureK
import Derived.Test.YtmlgpjficicagaaDoorPureV
set_option linter.unusedVariables false
namespace Go.Sx
open Go
/-! ## what terms come to -/
abbrev w64 (a : Int) : Int := IntKind.i64.wrap a
def v0 : Val := ⟨0, 0, [], []⟩
def truthV (b : Bool) : Val := ⟨2, if b then 1 else 0, [], []⟩
/-- data.May -/
def mayV (x : Val) : Bool :=
  if x.k = 0 then decide (x.n = 0) && (decide (x.s = []) && decide ((x.l.length : Int) = 0))
  else if x.k = 1 then decide (x.s = []) && decide ((x.l.length : Int) = 0)
  else if x.k = 2 then (decide (x.n = 0) || decide (x.n = 1)) && (decide (x.s = []) && decide ((x.l.length : Int) = 0))
  else if x.k = 3 then decide ((x.s.length : Int) ≤ 24) && (decide (x.n = 0) && decide ((x.l.length : Int) = 0))
  else if x.k = 4 then decide ((x.l.length : Int) ≤ 16) && (decide (x.n = 0) && decide (x.s = []))
  else if x.k = 5 then !decide (x.s = []) && (decide (0 ≤ x.n) && (decide (x.n < 5) && decide ((x.l.length : Int) = 0)))
  else false
/-- data.Same -/
def sameV (a b : Val) : Bool := decide (a.k = b.k) && (decide (a.n = b.n) && (decide (a.s = b.s) && decide (a.l = b.l)))
theorem len0 {α : Type} {l : List α} : ((l.length : Int) = 0) = (l = []) := by cases l <;> simp; omega
theorem len0' {α : Type} {l : List α} : decide ((l.length : Int) = 0) = decide (l = []) := by cases l <;> simp; omega
theorem same_end {a b : List Int} {k : Int} (h : a.take k.toNat = b.take k.toNat) (hl : (a.length : Int) = b.length) (hk : ¬ k < a.length) (h0 : 0 ≤ k) : a = b := by
  rw [List.take_of_length_le (by omega), List.take_of_length_le (by omega)] at h; exact h
theorem same_ne {a b : List Int} {k : Int} {x y : Int} (hx : a[k.toNat]? = some x) (hy : b[k.toNat]? = some y) (h : ¬ x = y) : ¬ a = b := by
  rintro rfl
  rw [hx] at hy; exact h (Option.some.inj hy)

def numV (kind x y : Int) : Val × Int :=
  if kind = 6 then (⟨1, w64 (x + y), [], []⟩, 0)
  else if kind = 7 then (⟨1, w64 (x - y), [], []⟩, 0)
  else if kind = 8 then (⟨1, w64 (x * y), [], []⟩, 0)
  else if kind = 12 then (truthV (decide (x < y)), 0)
  else if kind = 9 ∨ kind = 10 then
    if y = 0 then (v0, 403) else if kind = 9 then (⟨1, w64 (x.tdiv y), [], []⟩, 0) else (⟨1, x.tmod y, [], []⟩, 0)
  else (⟨1, 0, [], []⟩, 0)

def wrongV : Val × Int := (v0, 402)
def pushV (a b : Val) : Val × Int := if 16 ≤ (a.l.length : Int) then (v0, 405) else (⟨4, 0, [], a.l ++ [b.n]⟩, 0)
def atV (a b : Val) : Val × Int := if b.n < 0 ∨ (a.l.length : Int) ≤ b.n then (v0, 404) else (⟨1, a.l[b.n.toNat]?.getD 0, [], []⟩, 0)
def joinV (a b : Val) : Val × Int := if 24 < (a.s.length : Int) + b.s.length then (v0, 405) else (⟨3, 0, a.s ++ b.s, []⟩, 0)
def isNumOp (k : Int) : Bool := decide (k = 6) || (decide (k = 7) || (decide (k = 8) || (decide (k = 9) || (decide (k = 10) || decide (k = 12)))))
def applyV (kind : Int) (a b : Val) : Val × Int :=
  if isNumOp kind then if ¬ a.k = 1 ∨ ¬ b.k = 1 then wrongV else numV kind a.n b.n
  else if kind = 11 then if ¬ a.k = b.k ∨ a.k = 5 then wrongV else (truthV (sameV a b), 0)
  else if kind = 13 ∨ kind = 14 then
    if ¬ a.k = 2 ∨ ¬ b.k = 2 then wrongV
    else if kind = 13 then (truthV (decide (a.n = 1) && decide (b.n = 1)), 0) else (truthV (decide (a.n = 1) || decide (b.n = 1)), 0)
  else if kind = 15 then if ¬ a.k = 2 then wrongV else (truthV (decide (a.n = 0)), 0)
  else if kind = 16 then if a.k = 3 then (⟨1, a.s.length, [], []⟩, 0) else if a.k = 4 then (⟨1, a.l.length, [], []⟩, 0) else wrongV
  else if kind = 17 ∨ kind = 18 then
    if ¬ a.k = 4 ∨ ¬ b.k = 1 then wrongV else if kind = 17 then atV a b else pushV a b
  else if ¬ a.k = 3 ∨ ¬ b.k = 3 then wrongV else joinV a b

def holdV (env : List Bind) (name : Str) : Val × Int := match env with
  | [] => (v0, 401)
  | b :: r => if b.name = name then (if mayV b.v then (b.v, 0) else (v0, 402)) else holdV r name
theorem holdV_skip {env : List Bind} {name : Str} {k : Int} {x : Bind} (hk : 0 ≤ k) (h : holdV env name = holdV (env.drop k.toNat) name) (hx : env[k.toNat]? = some x) (hne : ¬ x.name = name) : holdV env name = holdV (env.drop (k + 1).toNat) name := by
  rw [h, drop_at hk hx]; simp [holdV, hne]
theorem holdV_at {env : List Bind} {name : Str} {k : Int} {x : Bind} (hk : 0 ≤ k) (h : holdV env name = holdV (env.drop k.toNat) name) (hx : env[k.toNat]? = some x) (he : x.name = name) : holdV env name = if mayV x.v then (x.v, 0) else (v0, 402) := by
  rw [h, drop_at hk hx]; simp [holdV, he]
theorem holdV_end {env : List Bind} {name : Str} {k : Int} (h : holdV env name = holdV (env.drop k.toNat) name) (hk : ¬ k < env.length) : holdV env name = (v0, 401) := by
  rw [h, drop_end hk]; simp [holdV]

def leafV (t : Term) (env : List Bind) : Val × Int :=
  if t.kind = 1 then (⟨1, t.n, [], []⟩, 0)
  else if t.kind = 2 then (⟨2, t.n, [], []⟩, 0)
  else if t.kind = 3 then (⟨3, 0, t.text, []⟩, 0)
  else if t.kind = 4 then (⟨4, 0, [], []⟩, 0)
  else if t.kind = 5 then (v0, 0)
  else holdV env t.name

theorem leafV_var {t : Term} {env : List Bind} (h1 : ¬ t.kind = 1) (h2 : ¬ t.kind = 2) (h3 : ¬ t.kind = 3) (h4 : ¬ t.kind = 4) (h5 : ¬ t.kind = 5) : leafV t env = holdV env t.name := by
  unfold leafV; simp only [h1, h2, h3, h4, h5, if_false]

def evalW (l : List Term) (env : List Bind) : Nat → Int → Val × Int
  | 0, _ => (v0, 0)
  | f + 1, at_ => match l[at_.toNat]? with
    | none => (v0, 0)
    | some t => if operandsI t.kind = 0 then leafV t env else
      if ¬ (evalW l env f t.l).2 = 0 then (v0, (evalW l env f t.l).2) else
      if operandsI t.kind = 2 then
        if ¬ (evalW l env f t.r).2 = 0 then (v0, (evalW l env f t.r).2) else applyV t.kind (evalW l env f t.l).1 (evalW l env f t.r).1
      else applyV t.kind (evalW l env f t.l).1 v0
theorem evalW_leaf {l : List Term} {env : List Bind} {f : Nat} {at_ : Int} {t : Term} (hx : l[at_.toNat]? = some t) (h : operandsI t.kind = 0) : evalW l env (f + 1) at_ = leafV t env := by
  simp only [evalW, hx]; rw [if_pos h]
theorem evalW_a {l : List Term} {env : List Bind} {f : Nat} {at_ : Int} {t : Term} (hx : l[at_.toNat]? = some t) (h : ¬ operandsI t.kind = 0) (ha : ¬ (evalW l env f t.l).2 = 0) : evalW l env (f + 1) at_ = (v0, (evalW l env f t.l).2) := by
  simp only [evalW, hx]; rw [if_neg h, if_pos ha]
theorem evalW_1 {l : List Term} {env : List Bind} {f : Nat} {at_ : Int} {t : Term} (hx : l[at_.toNat]? = some t) (h : ¬ operandsI t.kind = 0) (ha : (evalW l env f t.l).2 = 0) (h2 : ¬ operandsI t.kind = 2) : evalW l env (f + 1) at_ = applyV t.kind (evalW l env f t.l).1 v0 := by
  simp only [evalW, hx]; rw [if_neg h, if_neg (by simpa using ha), if_neg h2]
theorem evalW_b {l : List Term} {env : List Bind} {f : Nat} {at_ : Int} {t : Term} (hx : l[at_.toNat]? = some t) (h : ¬ operandsI t.kind = 0) (ha : (evalW l env f t.l).2 = 0) (h2 : operandsI t.kind = 2) (hb : ¬ (evalW l env f t.r).2 = 0) : evalW l env (f + 1) at_ = (v0, (evalW l env f t.r).2) := by
  simp only [evalW, hx]; rw [if_neg h, if_neg (by simpa using ha), if_pos h2, if_pos hb]
theorem evalW_2 {l : List Term} {env : List Bind} {f : Nat} {at_ : Int} {t : Term} (hx : l[at_.toNat]? = some t) (h : ¬ operandsI t.kind = 0) (ha : (evalW l env f t.l).2 = 0) (h2 : operandsI t.kind = 2) (hb : (evalW l env f t.r).2 = 0) : evalW l env (f + 1) at_ = applyV t.kind (evalW l env f t.l).1 (evalW l env f t.r).1 := by
  simp only [evalW, hx]; rw [if_neg h, if_neg (by simpa using ha), if_pos h2, if_neg (by simpa using hb)]
/-- term.Eval -/
def evalS (l : List Term) (root : Int) (env : List Bind) : Val × Int := if mayB l root then evalW l env (root.toNat + 1) root else (v0, 400)

/-- a text of a bounded length -/
def short (x : Val) : Prop := x.k = 3 → x.s.length ≤ 1000000
theorem v0_short : short v0 := by simp [short, v0]
theorem truthV_short (b : Bool) : short (truthV b) := by simp [short, truthV]
theorem applyV_short (k : Int) (a b : Val) : short (applyV k a b).1 := by
  unfold applyV numV atV pushV joinV wrongV
  (repeat' split) <;> simp_all [short, truthV, v0] <;> omega
theorem mayV_short {x : Val} (h : mayV x = true) : short x := by
  intro hk
  unfold mayV at h
  simp [hk] at h
  omega
theorem holdV_short (env : List Bind) (name : Str) : short (holdV env name).1 := by
  induction env with
  | nil => simp [holdV, short, v0]
  | cons b r ih =>
    unfold holdV
    split
    · split
      · rename_i h; exact mayV_short h
      · simp [short, v0]
    · exact ih
theorem leafV_short {t : Term} (env : List Bind) (h : fieldsB t = true) : short (leafV t env).1 := by
  unfold leafV
  split
  · simp [short]
  split
  · simp [short]
  split
  · rename_i h3
    intro _
    unfold fieldsB at h
    simp [h3] at h
    simp; omega
  split
  · simp [short]
  split
  · exact v0_short
  · exact holdV_short env t.name
theorem evalW_short {l : List Term} {env : List Bind} : ∀ (f : Nat) (at_ : Int), Tr l f at_ → short (evalW l env f at_).1
  | 0, _, h => h.elim
  | f + 1, at_, h => by
    obtain ⟨_, t, hx, _, hf, _⟩ := h
    simp only [evalW, hx]
    split
    · exact leafV_short env hf
    split
    · exact v0_short
    split
    · split
      · exact v0_short
      · exact applyV_short _ _ _
    · exact applyV_short _ _ _
/-- a value and an error, as they are handed back -/
def RV (r : Val × Int) (v : Value) (H : Hp) : Prop := ∃ lv, v = .tuple #[.agg (r.1.cells lv).toArray, .int .i64 r.2] ∧ RdV H lv r.1
theorem RV.of {r q : Val × Int} {lv : Value} {H : Hp} (h : q = r) (hr : RdV H lv q.1) : RV r (.tuple #[.agg (q.1.cells lv).toArray, .int .i64 q.2]) H := ⟨lv, by rw [h], h ▸ hr⟩
theorem RV.eq {r q : Val × Int} {v : Value} {H : Hp} (h : RV q v H) (e : q = r) : RV r v H := e ▸ h
theorem RV.le {r : Val × Int} {v : Value} {H H' : Hp} (h : RV r v H) (hl : H.le H') : RV r v H' := by
  obtain ⟨lv, h1, h2⟩ := h; exact ⟨lv, h1, h2.le hl⟩
theorem RdV.nil {H : Hp} {k n : Int} {s : Str} : RdV H (.slice none 0 0) ⟨k, n, s, []⟩ := RdSl.nil
end Go.Sx

import Derived.Test.YtjnlogbbcceaoaaSxA
import Derived.Test.YtjnlogbbcceaoaaSxB
import Derived.Sort.Row
import Derived.Sort.Grow
import Derived.Sort.EncStr
import Derived.Lib.RowBridge
set_option linter.unusedVariables false
namespace Go.Sx
open Go
/-! ## the data, and what the functions of names compute -/
abbrev Str := List UInt8

theorem drop_of {α : Type} {l : List α} {n : Nat} {x : α} (h : l[n]? = some x) : l.drop n = x :: l.drop (n + 1) := by
  obtain ⟨hlt, rfl⟩ := List.getElem?_eq_some_iff.1 h
  exact List.drop_eq_getElem_cons hlt
theorem toNat_succ {k : Int} (h : 0 ≤ k) : (k + 1).toNat = k.toNat + 1 := by omega
theorem drop_end {α : Type} {l : List α} {k : Int} (h : ¬ k < l.length) : l.drop k.toNat = [] := List.drop_eq_nil_of_le (by omega)
theorem drop_at {α : Type} {l : List α} {k : Int} {x : α} (hk : 0 ≤ k) (h : l[k.toNat]? = some x) : l.drop k.toNat = x :: l.drop (k + 1).toNat := by
  rw [toNat_succ hk]; exact drop_of h

def letterB (c : UInt8) : Bool := decide ((97 : Int) ≤ c.toNat) && decide ((c.toNat : Int) ≤ 122)
def digitB (c : UInt8) : Bool := decide ((48 : Int) ≤ c.toNat) && decide ((c.toNat : Int) ≤ 57)
def nameC (c : UInt8) : Bool := letterB c || digitB c
def kw1 (s : Str) : Bool := (decide (s = [97, 110, 100]) || (decide (s = [97, 115]) || (decide (s = [97, 116]) || (decide (s = [98, 111, 111, 108]) || (decide (s = [99, 97, 108, 108]) || (decide (s = [99, 104, 97, 110]) || (decide (s = [100, 114, 111, 112]) || (decide (s = [101, 108, 115, 101]) || (decide (s = [101, 109, 112, 116, 121]) || (decide (s = [101, 110, 100]) || (decide (s = [102, 97, 105, 108]) || (decide (s = [102, 97, 108, 115, 101]) || decide (s = [102, 114, 111, 109])))))))))))))
def kw2 (s : Str) : Bool := (decide (s = [104, 101, 97, 114]) || (decide (s = [105, 102]) || (decide (s = [105, 110, 116]) || (decide (s = [106, 111, 105, 110]) || (decide (s = [108, 101, 110]) || (decide (s = [108, 101, 116]) || (decide (s = [108, 105, 115, 116]) || (decide (s = [108, 111, 99, 97, 108]) || (decide (s = [108, 111, 115, 116]) || (decide (s = [109, 111, 100]) || (decide (s = [110, 111, 116]) || (decide (s = [111, 112, 101, 110]) || decide (s = [111, 114])))))))))))))
def kw3 (s : Str) : Bool := (decide (s = [112, 114, 105, 110, 116]) || (decide (s = [112, 114, 111, 99]) || (decide (s = [112, 114, 111, 116, 111, 99, 111, 108]) || (decide (s = [112, 117, 115, 104]) || (decide (s = [114, 111, 108, 101, 115]) || (decide (s = [115, 97, 121]) || (decide (s = [115, 112, 97, 119, 110]) || (decide (s = [115, 116, 111, 112]) || (decide (s = [116, 101, 120, 116]) || (decide (s = [116, 111]) || (decide (s = [116, 114, 117, 101]) || (decide (s = [117, 110, 105, 116]) || decide (s = [119, 105, 116, 104])))))))))))))
def rkw1 (s : Str) : Bool := (decide (s = [97, 110, 100]) || (decide (s = [97, 115]) || (decide (s = [97, 116]) || (decide (s = [98, 111, 111, 108]) || (decide (s = [99, 97, 108, 108]) || (decide (s = [99, 104, 97, 110]) || (decide (s = [100, 114, 111, 112]) || (decide (s = [101, 108, 115, 101]) || (decide (s = [101, 109, 112, 116, 121]) || (decide (s = [101, 110, 100]) || (decide (s = [102, 97, 105, 108]) || (decide (s = [102, 97, 108, 115, 101]) || (decide (s = [102, 114, 111, 109]) || (decide (s = [104, 101, 97, 114]) || (decide (s = [105, 102]) || (decide (s = [105, 110, 116]) || (decide (s = [106, 111, 105, 110]) || (decide (s = [108, 101, 110]) || (decide (s = [108, 101, 116]) || decide (s = [108, 105, 115, 116]))))))))))))))))))))
def rkw2 (s : Str) : Bool := (decide (s = [108, 111, 99, 97, 108]) || (decide (s = [108, 111, 115, 116]) || (decide (s = [109, 111, 100]) || (decide (s = [110, 111, 116]) || (decide (s = [111, 112, 101, 110]) || (decide (s = [111, 114]) || (decide (s = [112, 114, 105, 110, 116]) || (decide (s = [112, 114, 111, 99]) || (decide (s = [112, 114, 111, 116, 111, 99, 111, 108]) || (decide (s = [112, 117, 115, 104]) || (decide (s = [114, 111, 108, 101, 115]) || (decide (s = [115, 97, 121]) || (decide (s = [115, 112, 97, 119, 110]) || (decide (s = [115, 116, 111, 112]) || (decide (s = [116, 101, 120, 116]) || (decide (s = [116, 111]) || (decide (s = [116, 114, 117, 101]) || (decide (s = [117, 110, 105, 116]) || decide (s = [119, 105, 116, 104])))))))))))))))))))
def keywordB (s : Str) : Bool := kw1 s || (kw2 s || kw3 s)
theorem rkw_eq (s : Str) : (rkw1 s || rkw2 s) = keywordB s := by
  simp only [rkw1, rkw2, keywordB, kw1, kw2, kw3, Bool.or_assoc]

def nameMay (s : Str) : Bool :=
  if (s.length : Int) < 1 then false else if (12 : Int) < s.length then false else if letterB (s.headD 0) = false then false else if keywordB s then false
  else (s.drop 1).all nameC

theorem headD_of {s : Str} {c : UInt8} (h : s[(0 : Int).toNat]? = some c) : s.headD 0 = c := by
  cases s with
  | nil => simp at h
  | cons a s => simpa using h

structure Typing where
  name : Str
  kind : Int
  at_ : Int
def Typing.cells (t : Typing) : List Value := [gs t.name, .int .i64 t.kind, .int .i64 t.at_]

structure Term where
  kind : Int
  name : Str
  n : Int
  text : Str
  l : Int
  r : Int
def Term.cells (t : Term) : List Value := [.int .i64 t.kind, gs t.name, .int .i64 t.n, gs t.text, .int .i64 t.l, .int .i64 t.r]

def i64ok (n : Int) : Prop := -9223372036854775808 ≤ n ∧ n ≤ 9223372036854775807
def Typing.ok (_ : Hp) (t : Typing) : Prop := t.name.length ≤ 9223372036854775807
def Term.ok (_ : Hp) (t : Term) : Prop := (t.name.length ≤ 9223372036854775807 ∧ t.text.length ≤ 9223372036854775807) ∧ i64ok t.n
theorem flatMap_get {α : Type} {enc : α → List Value} {k : Nat} : ∀ {l : List α}, (∀ x ∈ l, (enc x).length = k) → ∀ (i : Nat) (x : α), l[i]? = some x → ∀ j u, (enc x)[j]? = some u → (l.flatMap enc)[i * k + j]? = some u
  | [], _, i, x, hx, _, _, _ => by simp at hx
  | y :: l, hk, 0, x, hx, j, u, hu => by
    simp only [List.getElem?_cons_zero, Option.some.injEq] at hx
    subst hx
    have : j < (enc y).length := (List.getElem?_eq_some_iff.1 hu).1
    simp only [List.flatMap_cons, Nat.zero_mul, Nat.zero_add]
    rw [List.getElem?_append_left this]; exact hu
  | y :: l, hk, i + 1, x, hx, j, u, hu => by
    have h1 := hk y (by simp)
    simp only [List.flatMap_cons]
    rw [List.getElem?_append_right (by rw [h1, Nat.succ_mul]; omega), h1, show (i + 1) * k + j - k = i * k + j by rw [Nat.succ_mul]; omega]
    exact flatMap_get (fun z hz => hk z (List.mem_cons_of_mem _ hz)) i x (by simpa using hx) j u hu

/-- a slice over a block that was let go of -/
theorem RdSl.blk {α : Type} {H : Hp} {enc : α → List Value} {k b cap : Nat} {cs : List Value} {l : List α} (h : ∀ o v, cs[o]? = some v → H b o = some v) (hk : ∀ x ∈ l, (enc x).length = k) (hc : cs = l.flatMap enc)
    (hm : l.length ≤ 9223372036854775807) (hcap : l.length ≤ cap := by first | exact Nat.le_refl _ | omega | (simp; done) | (simp; omega)) : RdSl H k enc (.slice (some ⟨b, 0, none⟩) l.length cap) l := by
  subst hc
  refine ⟨⟨_, _, rfl⟩, hm, fun _ => ⟨_, rfl⟩, fun i x hx j u hu => ?_, fun a n c e => by injection e with _ _ e; omega⟩
  have := flatMap_get hk i x hx j u hu
  simp only [off, Nat.zero_add]
  exact h _ _ this
theorem RdSl.nil {α : Type} {H : Hp} {enc : α → List Value} {k : Nat} : RdSl H k enc (.slice none 0 0) [] :=
  ⟨⟨_, _, rfl⟩, by simp, fun h => absurd rfl h, fun i x hx => by simp at hx, fun a n c _ => by simp⟩
end Go.Sx

set_option linter.unusedVariables false
namespace Go.Sx
open Go
theorem nameMay_F {s : Str} (h : decide ((s.length : Int) < 1) = true ∨ decide ((12 : Int) < s.length) = true ∨ (∃ c, s[(0 : Int).toNat]? = some c ∧ (!letterB c) = true) ∨ keywordB s = true) : nameMay s = false := by
  unfold nameMay
  rcases h with h | h | ⟨c, hc, h⟩ | h
  · rw [if_pos (of_decide_eq_true h)]
  · split
    · rfl
    · rw [if_pos (of_decide_eq_true h)]
  · rw [headD_of hc]
    split
    · rfl
    split
    · rfl
    rw [if_pos (by simpa using h)]
  · split
    · rfl
    split
    · rfl
    split
    · rfl
    first | rfl | rw [if_pos h]
theorem nameMay_T {s : Str} {c : UInt8} (h1 : decide ((s.length : Int) < 1) = false) (h2 : decide ((12 : Int) < s.length) = false) (hc : s[(0 : Int).toNat]? = some c) (h3 : (!letterB c) = false) (h4 : keywordB s = false) : nameMay s = (s.drop 1).all nameC := by
  unfold nameMay
  rw [if_neg (of_decide_eq_false h1), if_neg (of_decide_eq_false h2), headD_of hc, if_neg (by simpa using h3), if_neg (by simp [h4])]
theorem nameMay_step {s : Str} {k : Int} {c : UInt8} (h : (s.drop 1).all nameC = (s.drop k.toNat).all nameC) (hk : 0 ≤ k) (hc : s[k.toNat]? = some c) (hx : (!letterB c) = false ∨ (!digitB c) = false) : (s.drop 1).all nameC = (s.drop (k + 1).toNat).all nameC := by
  rw [h, drop_at hk hc, List.all_cons]
  have : nameC c = true := by unfold nameC; rcases hx with hx | hx <;> simp at hx <;> simp [hx]
  simp [this]
theorem nameMay_end {s : Str} {k : Int} (hn : nameMay s = (s.drop 1).all nameC) (h : (s.drop 1).all nameC = (s.drop k.toNat).all nameC) (hk : ¬ k < s.length) : nameMay s = true := by
  rw [hn, h, drop_end hk]; rfl
theorem nameMay_bad {s : Str} {k : Int} {c : UInt8} (hn : nameMay s = (s.drop 1).all nameC) (h : (s.drop 1).all nameC = (s.drop k.toNat).all nameC) (hk : 0 ≤ k) (hc : s[k.toNat]? = some c) (h1 : (!letterB c) = true) (h2 : (!digitB c) = true) : nameMay s = false := by
  rw [hn, h, drop_at hk hc, List.all_cons]
  have : nameC c = false := by unfold nameC; simp at h1 h2; simp [h1, h2]
  simp [this]
end Go.Sx

set_option linter.unusedVariables false
namespace Go.Sx
open Go
/-! ## terms -/
def operandsI (k : Int) : Int := if k < 0 ∨ 19 < k then -1 else if k ≤ 5 then 0 else if k = 15 ∨ k = 16 then 1 else 2

def fieldsB (t : Term) : Bool :=
  if t.kind = 0 then nameMay t.name && (decide (t.n = 0) && decide (t.text = []))
  else if t.kind = 1 then decide (t.name = []) && decide (t.text = [])
  else if t.kind = 2 then decide (t.name = []) && (decide (t.text = []) && (decide (t.n = 0) || decide (t.n = 1)))
  else if t.kind = 3 then decide (t.name = []) && (decide (t.n = 0) && decide ((t.text.length : Int) ≤ 24))
  else decide (t.name = []) && (decide (t.n = 0) && decide (t.text = []))

/-- one operand of the walk of term.May: 'rec' goes on -/
def opW (k at_ : Int) (rec : Int → List Bool → Bool × List Bool) (i to : Int) (met : List Bool) : Bool × List Bool :=
  if k ≤ i then (decide (to = -1), met) else if to < 0 ∨ at_ ≤ to then (false, met) else rec to met

def mayW (l : List Term) : Nat → Int → Int → List Bool → Bool × List Bool
  | 0, _, _, met => (false, met)
  | f + 1, at_, deep, met =>
    match l[at_.toNat]? with
    | none => (false, met)
    | some t =>
      if met[at_.toNat]?.getD false = true ∨ 24 < deep ∨ operandsI t.kind < 0 ∨ fieldsB t = false then (false, met)
      else
        let a := opW (operandsI t.kind) at_ (fun to m => mayW l f to (deep + 1) m) 0 t.l (met.set at_.toNat true)
        if a.1 = false then (false, a.2) else opW (operandsI t.kind) at_ (fun to m => mayW l f to (deep + 1) m) 1 t.r a.2

theorem mayW_F {l : List Term} {f : Nat} {at_ deep : Int} {met : List Bool} {t : Term} (hx : l[at_.toNat]? = some t) (h : met[at_.toNat]?.getD false = true ∨ 24 < deep ∨ operandsI t.kind < 0 ∨ fieldsB t = false) :
    mayW l (f + 1) at_ deep met = (false, met) := by
  simp only [mayW, hx]; rw [if_pos h]
/-- what the walk has seen of a term that it goes into -/
def MayG (deep : Int) (met : List Bool) (at_ : Int) (t : Term) : Prop := met[at_.toNat]?.getD false = false ∧ ¬ 24 < deep ∧ ¬ operandsI t.kind < 0 ∧ fieldsB t = true
theorem mayW_0 {l : List Term} {f : Nat} {at_ deep : Int} {met m : List Bool} {t : Term} (hx : l[at_.toNat]? = some t) (h : MayG deep met at_ t)
    (h0 : opW (operandsI t.kind) at_ (fun to m => mayW l f to (deep + 1) m) 0 t.l (met.set at_.toNat true) = (false, m)) : mayW l (f + 1) at_ deep met = (false, m) := by
  obtain ⟨h1, h2, h3, h4⟩ := h
  simp only [mayW, hx]; rw [if_neg (by simp [h1, h2, h3, h4]), h0]; rfl
theorem mayW_1 {l : List Term} {f : Nat} {at_ deep : Int} {met m : List Bool} {t : Term} {r : Bool × List Bool} (hx : l[at_.toNat]? = some t) (h : MayG deep met at_ t)
    (h0 : opW (operandsI t.kind) at_ (fun to m => mayW l f to (deep + 1) m) 0 t.l (met.set at_.toNat true) = (true, m))
    (h5 : opW (operandsI t.kind) at_ (fun to m => mayW l f to (deep + 1) m) 1 t.r m = r) : mayW l (f + 1) at_ deep met = r := by
  obtain ⟨h1, h2, h3, h4⟩ := h
  simp only [mayW, hx]; rw [if_neg (by simp [h1, h2, h3, h4]), h0]; simpa using h5
theorem opW_leF {k at_ : Int} {rec : Int → List Bool → Bool × List Bool} {i to : Int} {met : List Bool} (h : k ≤ i) (hb : ¬ to = -1) : opW k at_ rec i to met = (false, met) := by
  unfold opW; rw [if_pos h]; simp [hb]
theorem opW_leT {k at_ : Int} {rec : Int → List Bool → Bool × List Bool} {i to : Int} {met : List Bool} (h : k ≤ i) (hb : to = -1) : opW k at_ rec i to met = (true, met) := by
  unfold opW; rw [if_pos h]; simp [hb]
theorem opW_r {k at_ : Int} {rec : Int → List Bool → Bool × List Bool} {i to : Int} {met : List Bool} {r : Bool × List Bool} (h : ¬ k ≤ i) (h2 : decide (to < 0) = false) (h3 : decide (at_ ≤ to) = false) (e : rec to met = r) : opW k at_ rec i to met = r := by
  unfold opW; rw [if_neg h, if_neg (by simp at h2 h3; omega)]; exact e
theorem opW_b1 {k at_ : Int} {rec : Int → List Bool → Bool × List Bool} {i to : Int} {met : List Bool} (h : ¬ k ≤ i) (h2 : decide (to < 0) = true) : opW k at_ rec i to met = (false, met) := by
  unfold opW; rw [if_neg h, if_pos (.inl (of_decide_eq_true h2))]
theorem opW_b2 {k at_ : Int} {rec : Int → List Bool → Bool × List Bool} {i to : Int} {met : List Bool} (h : ¬ k ≤ i) (h2 : decide (at_ ≤ to) = true) : opW k at_ rec i to met = (false, met) := by
  unfold opW; rw [if_neg h, if_pos (.inr (of_decide_eq_true h2))]
theorem opW_le {k at_ : Int} {rec : Int → List Bool → Bool × List Bool} {i to : Int} {met : List Bool} (h : k ≤ i) : opW k at_ rec i to met = (decide (to = -1), met) := by
  unfold opW; rw [if_pos h]
theorem opW_bad {k at_ : Int} {rec : Int → List Bool → Bool × List Bool} {i to : Int} {met : List Bool} (h : ¬ k ≤ i) (h2 : to < 0 ∨ at_ ≤ to) : opW k at_ rec i to met = (false, met) := by
  unfold opW; rw [if_neg h, if_pos h2]
theorem opW_rec {k at_ : Int} {rec : Int → List Bool → Bool × List Bool} {i to : Int} {met : List Bool} (h : ¬ k ≤ i) (h2 : ¬ to < 0) (h3 : ¬ at_ ≤ to) : opW k at_ rec i to met = rec to met := by
  unfold opW; rw [if_neg h, if_neg (by omega)]

theorem bools_get {met : List Bool} {i : Nat} (h : i < met.length) : (met.map Value.bool)[0 + i * 1]? = some (.bool (met[i]?.getD false)) := by
  simp [List.getElem?_eq_getElem h]
theorem bools_set (met : List Bool) (i : Nat) (b : Bool) : (met.map Value.bool).set (0 + i * 1) (.bool b) = (met.set i b).map Value.bool := by
  simp [List.map_set]
theorem reps_false (n : Nat) : reps n [Value.bool false] = (List.replicate n false).map Value.bool := by
  induction n with
  | zero => rfl
  | succ n ih => simp [reps, ih, List.replicate_succ]

/-- term.May -/
def mayB (l : List Term) (root : Int) : Bool :=
  if (160 : Int) < l.length then false else if root < 0 then false else if (l.length : Int) ≤ root then false else (mayW l (root.toNat + 1) root 1 (List.replicate l.length false)).1
theorem mayB_F1 {l : List Term} {root : Int} (h : decide ((160 : Int) < l.length) = true) : mayB l root = false := by unfold mayB; rw [if_pos (of_decide_eq_true h)]
theorem mayB_F2 {l : List Term} {root : Int} (h : decide (root < 0) = true) : mayB l root = false := by
  unfold mayB; split
  · rfl
  · rw [if_pos (of_decide_eq_true h)]
theorem mayB_F3 {l : List Term} {root : Int} (h : (l.length : Int) ≤ root) : mayB l root = false := by
  unfold mayB; split
  · rfl
  · split
    · rfl
    · first | rfl | rw [if_pos h]
theorem mayB_in {l : List Term} {root : Int} (h1 : decide ((160 : Int) < l.length) = false) (h2 : decide (root < 0) = false) (h3 : ¬ (l.length : Int) ≤ root) : (l.length : Int) ≤ 160 ∧ 0 ≤ root ∧ root < l.length := by
  have := of_decide_eq_false h1; have := of_decide_eq_false h2; omega
theorem mayB_T {l : List Term} {root : Int} (h : (l.length : Int) ≤ 160 ∧ 0 ≤ root ∧ root < l.length) : mayB l root = (mayW l (root.toNat + 1) root 1 (List.replicate l.length false)).1 := by
  unfold mayB; rw [if_neg (by omega), if_neg (by omega), if_neg (by omega)]
end Go.Sx

set_option linter.unusedVariables false
namespace Go.Sx
open Go
/-! ## kinds -/
theorem pair_ret {a b : Int} {p : Int × Int} (h : p = (a, b)) : Value.tuple #[.int .i64 a, .int .i64 b] = .tuple #[.int .i64 p.1, .int .i64 p.2] := by rw [h]
def pairV (p : Int × Int) : Value := .tuple #[.int .i64 p.1, .int .i64 p.2]

def heldS (env : List Typing) (name : Str) : Int × Int := match env with
  | [] => (0, 501)
  | t :: r => if t.name = name then (if t.kind < 0 ∨ 5 < t.kind then (0, 502) else (t.kind, 0)) else heldS r name

theorem held_skip {env : List Typing} {name : Str} {k : Int} {x : Typing} (hk : 0 ≤ k) (h : heldS env name = heldS (env.drop k.toNat) name) (hx : env[k.toNat]? = some x) (hne : ¬ x.name = name) : heldS env name = heldS (env.drop (k + 1).toNat) name := by
  rw [h, drop_at hk hx]; simp [heldS, hne]
theorem held_at {env : List Typing} {name : Str} {k : Int} {x : Typing} (hk : 0 ≤ k) (h : heldS env name = heldS (env.drop k.toNat) name) (hx : env[k.toNat]? = some x) (he : x.name = name) : heldS env name = if x.kind < 0 ∨ 5 < x.kind then (0, 502) else (x.kind, 0) := by
  rw [h, drop_at hk hx]; simp [heldS, he]
theorem held_end {env : List Typing} {name : Str} {k : Int} (h : heldS env name = heldS (env.drop k.toNat) name) (hk : ¬ k < env.length) : heldS env name = (0, 501) := by
  rw [h, drop_end hk]; simp [heldS]

def askW (k : Int) : Int × Int × Int :=
  if 6 ≤ k ∧ k ≤ 10 then (1, 1, 1) else if k = 12 then (1, 1, 2) else if k = 13 ∨ k = 14 then (2, 2, 2) else if k = 15 then (2, -1, 2) else if k = 16 then (-2, -1, 1)
  else if k = 17 then (4, 1, 1) else if k = 18 then (4, 1, 4) else if k = 19 then (3, 3, 3) else if k = 11 then (-2, -2, 2) else if k = 1 then (-1, -1, 1)
  else if k = 2 then (-1, -1, 2) else if k = 3 then (-1, -1, 3) else if k = 4 then (-1, -1, 4) else (-1, -1, 0)

theorem askW_0 {k : Int} (h : 6 ≤ k ∧ k ≤ 10) : askW k = (1, 1, 1) := by
  unfold askW; rw [if_pos (by omega)]
theorem askW_1 {k : Int} (h : k = 12) : askW k = (1, 1, 2) := by
  unfold askW; rw [if_neg (by omega)]; rw [if_pos (by omega)]
theorem askW_2 {k : Int} (h : k = 13 ∨ k = 14) : askW k = (2, 2, 2) := by
  unfold askW; rw [if_neg (by omega)]; rw [if_neg (by omega)]; rw [if_pos (by omega)]
theorem askW_3 {k : Int} (h : k = 15) : askW k = (2, -1, 2) := by
  unfold askW; rw [if_neg (by omega)]; rw [if_neg (by omega)]; rw [if_neg (by omega)]; rw [if_pos (by omega)]
theorem askW_4 {k : Int} (h : k = 16) : askW k = (-2, -1, 1) := by
  unfold askW; rw [if_neg (by omega)]; rw [if_neg (by omega)]; rw [if_neg (by omega)]; rw [if_neg (by omega)]; rw [if_pos (by omega)]
theorem askW_5 {k : Int} (h : k = 17) : askW k = (4, 1, 1) := by
  unfold askW; rw [if_neg (by omega)]; rw [if_neg (by omega)]; rw [if_neg (by omega)]; rw [if_neg (by omega)]; rw [if_neg (by omega)]; rw [if_pos (by omega)]
theorem askW_6 {k : Int} (h : k = 18) : askW k = (4, 1, 4) := by
  unfold askW; rw [if_neg (by omega)]; rw [if_neg (by omega)]; rw [if_neg (by omega)]; rw [if_neg (by omega)]; rw [if_neg (by omega)]; rw [if_neg (by omega)]; rw [if_pos (by omega)]
theorem askW_7 {k : Int} (h : k = 19) : askW k = (3, 3, 3) := by
  unfold askW; rw [if_neg (by omega)]; rw [if_neg (by omega)]; rw [if_neg (by omega)]; rw [if_neg (by omega)]; rw [if_neg (by omega)]; rw [if_neg (by omega)]; rw [if_neg (by omega)]; rw [if_pos (by omega)]
theorem askW_8 {k : Int} (h : k = 11) : askW k = (-2, -2, 2) := by
  unfold askW; rw [if_neg (by omega)]; rw [if_neg (by omega)]; rw [if_neg (by omega)]; rw [if_neg (by omega)]; rw [if_neg (by omega)]; rw [if_neg (by omega)]; rw [if_neg (by omega)]; rw [if_neg (by omega)]; rw [if_pos (by omega)]
theorem askW_9 {k : Int} (h : k = 1) : askW k = (-1, -1, 1) := by
  unfold askW; rw [if_neg (by omega)]; rw [if_neg (by omega)]; rw [if_neg (by omega)]; rw [if_neg (by omega)]; rw [if_neg (by omega)]; rw [if_neg (by omega)]; rw [if_neg (by omega)]; rw [if_neg (by omega)]; rw [if_neg (by omega)]; rw [if_pos (by omega)]
theorem askW_10 {k : Int} (h : k = 2) : askW k = (-1, -1, 2) := by
  unfold askW; rw [if_neg (by omega)]; rw [if_neg (by omega)]; rw [if_neg (by omega)]; rw [if_neg (by omega)]; rw [if_neg (by omega)]; rw [if_neg (by omega)]; rw [if_neg (by omega)]; rw [if_neg (by omega)]; rw [if_neg (by omega)]; rw [if_neg (by omega)]; rw [if_pos (by omega)]
theorem askW_11 {k : Int} (h : k = 3) : askW k = (-1, -1, 3) := by
  unfold askW; rw [if_neg (by omega)]; rw [if_neg (by omega)]; rw [if_neg (by omega)]; rw [if_neg (by omega)]; rw [if_neg (by omega)]; rw [if_neg (by omega)]; rw [if_neg (by omega)]; rw [if_neg (by omega)]; rw [if_neg (by omega)]; rw [if_neg (by omega)]; rw [if_neg (by omega)]; rw [if_pos (by omega)]
theorem askW_12 {k : Int} (h : k = 4) : askW k = (-1, -1, 4) := by
  unfold askW; rw [if_neg (by omega)]; rw [if_neg (by omega)]; rw [if_neg (by omega)]; rw [if_neg (by omega)]; rw [if_neg (by omega)]; rw [if_neg (by omega)]; rw [if_neg (by omega)]; rw [if_neg (by omega)]; rw [if_neg (by omega)]; rw [if_neg (by omega)]; rw [if_neg (by omega)]; rw [if_neg (by omega)]; rw [if_pos (by omega)]
theorem askW_d {k : Int} (h : ¬ (6 ≤ k ∧ k ≤ 19) ∧ ¬ (1 ≤ k ∧ k ≤ 4)) : askW k = (-1, -1, 0) := by
  unfold askW; rw [if_neg (by omega)]; rw [if_neg (by omega)]; rw [if_neg (by omega)]; rw [if_neg (by omega)]; rw [if_neg (by omega)]; rw [if_neg (by omega)]; rw [if_neg (by omega)]; rw [if_neg (by omega)]; rw [if_neg (by omega)]; rw [if_neg (by omega)]; rw [if_neg (by omega)]; rw [if_neg (by omega)]; rw [if_neg (by omega)]
theorem asked_ret {k a b c : Int} (h : askW k = (a, b, c)) : Value.tuple #[.agg [.int .i64 a, .int .i64 b].toArray, .int .i64 c] = .tuple #[.agg #[.int .i64 (askW k).1, .int .i64 (askW k).2.1], .int .i64 (askW k).2.2] := by rw [h]

/-- the two operands' kinds are compared with what is asked for -/
def kFin1 (w g : Int) : Bool := decide (0 ≤ w) && !decide (g = w)
def kFin2 (k ga gb : Int) : Bool := (decide (k = 11) && (!decide (ga = gb) || decide (ga = 5))) || (decide (k = 16) && (!decide (ga = 3) && !decide (ga = 4)))
def kFinB (k ga gb : Int) : Int × Int := if kFin2 k ga gb then (0, 502) else ((askW k).2.2, 0)
def kFin (k ga gb : Int) : Int × Int := if kFin1 (askW k).1 ga then (0, 502) else if kFin1 (askW k).2.1 gb then (0, 502) else kFinB k ga gb

/-- an operand's kind: (0, 0) where none is asked for -/
def kOp (w : Int) (r : Int × Int) : Int × Int := if w = -1 then (0, 0) else r

def kOf (l : List Term) (env : List Typing) : Nat → Int → Int × Int
  | 0, _ => (0, 0)
  | f + 1, at_ => match l[at_.toNat]? with
    | none => (0, 0)
    | some t => if t.kind = 0 then heldS env t.name else
      let a := kOp (askW t.kind).1 (kOf l env f t.l)
      if a.2 ≠ 0 then (0, a.2) else
      let b := kOp (askW t.kind).2.1 (kOf l env f t.r)
      if b.2 ≠ 0 then (0, b.2) else kFin t.kind a.1 b.1

theorem kOf_var {l : List Term} {env : List Typing} {f : Nat} {at_ : Int} {t : Term} (hx : l[at_.toNat]? = some t) (h : t.kind = 0) : kOf l env (f + 1) at_ = heldS env t.name := by
  simp only [kOf, hx]; rw [if_pos h]
theorem kOf_a {l : List Term} {env : List Typing} {f : Nat} {at_ : Int} {t : Term} (hx : l[at_.toNat]? = some t) (h : ¬ t.kind = 0) (ha : ¬ (kOp (askW t.kind).1 (kOf l env f t.l)).2 = 0) : kOf l env (f + 1) at_ = (0, (kOp (askW t.kind).1 (kOf l env f t.l)).2) := by
  simp only [kOf, hx]; rw [if_neg h, if_pos ha]
theorem kOf_b {l : List Term} {env : List Typing} {f : Nat} {at_ : Int} {t : Term} (hx : l[at_.toNat]? = some t) (h : ¬ t.kind = 0) (ha : (kOp (askW t.kind).1 (kOf l env f t.l)).2 = 0) (hb : ¬ (kOp (askW t.kind).2.1 (kOf l env f t.r)).2 = 0) : kOf l env (f + 1) at_ = (0, (kOp (askW t.kind).2.1 (kOf l env f t.r)).2) := by
  simp only [kOf, hx]; rw [if_neg h, if_neg (by simpa using ha), if_pos hb]
theorem kOf_f {l : List Term} {env : List Typing} {f : Nat} {at_ : Int} {t : Term} (hx : l[at_.toNat]? = some t) (h : ¬ t.kind = 0) (ha : (kOp (askW t.kind).1 (kOf l env f t.l)).2 = 0) (hb : (kOp (askW t.kind).2.1 (kOf l env f t.r)).2 = 0) : kOf l env (f + 1) at_ = kFin t.kind (kOp (askW t.kind).1 (kOf l env f t.l)).1 (kOp (askW t.kind).2.1 (kOf l env f t.r)).1 := by
  simp only [kOf, hx]; rw [if_neg h, if_neg (by simpa using ha), if_neg (by simpa using hb)]

/-- a valid tree at 'at_' (of at most f levels) -/
def Tr (l : List Term) : Nat → Int → Prop
  | 0, _ => False
  | f + 1, at_ => 0 ≤ at_ ∧ ∃ t, l[at_.toNat]? = some t ∧ 0 ≤ operandsI t.kind ∧ fieldsB t = true ∧ (1 ≤ operandsI t.kind → Tr l f t.l) ∧ (operandsI t.kind < 1 → t.l = -1) ∧ (2 ≤ operandsI t.kind → Tr l f t.r) ∧ (operandsI t.kind < 2 → t.r = -1)

theorem kind_cases {k : Int} (h0 : 0 ≤ operandsI k) : k = 0 ∨ k = 1 ∨ k = 2 ∨ k = 3 ∨ k = 4 ∨ k = 5 ∨ k = 6 ∨ k = 7 ∨ k = 8 ∨ k = 9 ∨ k = 10 ∨ k = 11 ∨ k = 12 ∨ k = 13 ∨ k = 14 ∨ k = 15 ∨ k = 16 ∨ k = 17 ∨ k = 18 ∨ k = 19 := by
  unfold operandsI at h0
  split at h0
  · omega
  · omega
theorem askW_a {k : Int} (h0 : 0 ≤ operandsI k) (h : ¬ (askW k).1 = -1) : 1 ≤ operandsI k := by
  revert h
  rcases kind_cases h0 with rfl | rfl | rfl | rfl | rfl | rfl | rfl | rfl | rfl | rfl | rfl | rfl | rfl | rfl | rfl | rfl | rfl | rfl | rfl | rfl <;> decide
theorem askW_b {k : Int} (h0 : 0 ≤ operandsI k) (h : ¬ (askW k).2.1 = -1) : 2 ≤ operandsI k := by
  revert h
  rcases kind_cases h0 with rfl | rfl | rfl | rfl | rfl | rfl | rfl | rfl | rfl | rfl | rfl | rfl | rfl | rfl | rfl | rfl | rfl | rfl | rfl | rfl <;> decide

/-- kind.Of -/
def ofS (l : List Term) (root : Int) (env : List Typing) : Int × Int := if mayB l root then kOf l env (root.toNat + 1) root else (0, 500)

/-! the reference -/
def mx1 (k a b : Int) : Bool := decide (k ≤ 10) && (decide (a = 1) && decide (b = 1))
def mx2 (k a b : Int) : Bool := (decide (k = 11) && (decide (a = b) && !decide (a = 5))) || (decide (k = 12) && (decide (a = 1) && decide (b = 1)))
def mx3 (k a b : Int) : Bool := ((decide (k = 13) || decide (k = 14)) && (decide (a = 2) && decide (b = 2))) || (decide (k = 15) && decide (a = 2))
def mx4 (k a b : Int) : Bool := (decide (k = 16) && (decide (a = 3) || decide (a = 4))) || (decide (k = 17) && (decide (a = 4) && decide (b = 1)))
def mx5 (k a b : Int) : Bool := decide (k = 18) && (decide (a = 4) && decide (b = 1))
def mx6 (k a b : Int) : Bool := decide (k = 19) && (decide (a = 3) && decide (b = 3))
def mixedI (k a b : Int) : Int × Int := if mx1 k a b then (1, 0) else if mx2 k a b then (2, 0) else if mx3 k a b then (2, 0) else if mx4 k a b then (1, 0) else if mx5 k a b then (4, 0) else if mx6 k a b then (3, 0) else (0, 502)
def leafK (t : Term) (env : List Typing) : Int × Int := if t.kind = 0 then heldS env t.name else if t.kind = 1 then (1, 0) else if t.kind = 2 then (2, 0) else if t.kind = 3 then (3, 0) else if t.kind = 4 then (4, 0) else (0, 0)
def kRef (l : List Term) (env : List Typing) : Nat → Int → Int × Int
  | 0, _ => (0, 0)
  | f + 1, at_ => match l[at_.toNat]? with
    | none => (0, 0)
    | some t => if operandsI t.kind = 0 then leafK t env else
      if (kRef l env f t.l).2 ≠ 0 then (0, (kRef l env f t.l).2) else
      if operandsI t.kind = 2 then (if (kRef l env f t.r).2 ≠ 0 then (0, (kRef l env f t.r).2) else mixedI t.kind (kRef l env f t.l).1 (kRef l env f t.r).1)
      else mixedI t.kind (kRef l env f t.l).1 0

def nameB (t : Term) : Bool := if t.kind = 0 then nameMay t.name else decide (t.name = [])
def numB (t : Term) : Bool := decide (t.n = 0) || (decide (t.kind = 1) || (decide (t.kind = 2) && decide (t.n = 1)))
def textB (t : Term) : Bool := decide (t.text = []) || (decide (t.kind = 3) && decide ((t.text.length : Int) ≤ 24))
def formB (t : Term) : Bool := decide (operandsI t.kind < 0) || ((decide (operandsI t.kind < 2) && !decide (t.r = -1)) || (decide (operandsI t.kind < 1) && !decide (t.l = -1)))
def aloneB (t : Term) : Bool := !formB t && (nameB t && (numB t && textB t))

/-! the reference's tree: of each place how deep it stands -/
def treeOp (d : List Int) (i at_ : Int) : Option (List Int) :=
  if at_ < 0 ∨ i ≤ at_ ∨ 0 < d[at_.toNat]?.getD 0 then none else some (d.set at_.toNat (d[i.toNat]?.getD 0 + 1))
def treeOps (d : List Int) (i : Int) (t : Term) : Option (List Int) :=
  if operandsI t.kind ≤ 0 then some d else match treeOp d i t.l with
    | none => none
    | some d1 => if operandsI t.kind ≤ 1 then some d1 else treeOp d1 i t.r
def treeStep (l : List Term) (i : Int) (d : List Int) : Option (List Int) :=
  if d[i.toNat]?.getD 0 = 0 then some d else match l[i.toNat]? with
    | none => none
    | some t => if aloneB t = false ∨ 24 < d[i.toNat]?.getD 0 then none else treeOps d i t
def treeLoop (l : List Term) : Nat → List Int → Option (List Int)
  | 0, d => some d
  | n + 1, d => match treeStep l n d with
    | none => none
    | some d' => treeLoop l n d'
def treeS (l : List Term) (root : Int) : Option (List Int) :=
  if (160 : Int) < l.length ∨ root < 0 ∨ (l.length : Int) ≤ root then none else treeLoop l (root + 1).toNat ((List.replicate l.length 0).set root.toNat 1)

def intC (x : Int) : List Value := [.int .i64 x]
theorem ints_get {d : List Int} {i : Nat} (h : i < d.length) : (d.map (Value.int .i64))[0 + i * 1]? = some (.int .i64 (d[i]?.getD 0)) := by
  simp [List.getElem?_eq_getElem h]
theorem ints_set (d : List Int) (i : Nat) (x : Int) : (d.map (Value.int .i64)).set (0 + i * 1) (.int .i64 x) = (d.set i x).map (Value.int .i64) := by
  simp [List.map_set]
theorem reps_zero (n : Nat) : reps n [Value.int .i64 0] = (List.replicate n 0).map (Value.int .i64) := by
  induction n with
  | zero => rfl
  | succ n ih => simp [reps, ih, List.replicate_succ]
theorem RdSl.ints {H : Hp} {b cap : Nat} {d : List Int} (h : ∀ o v, (d.map (Value.int .i64))[o]? = some v → H b o = some v) (hm : d.length ≤ 9223372036854775807) (hcap : d.length ≤ cap := by first | exact Nat.le_refl _ | omega | (simp; done) | (simp; omega)) : RdSl H 1 intC (.slice (some ⟨b, 0, none⟩) d.length cap) d := by
  refine ⟨⟨_, _, rfl⟩, hm, fun _ => ⟨_, rfl⟩, fun i x hx j u hu => ?_, fun a n c e => by injection e with _ _ e; omega⟩
  cases j with
  | zero =>
    simp only [intC, List.getElem?_cons_zero, Option.some.injEq] at hu
    subst hu
    refine h _ _ ?_
    simp [off, hx]
  | succ j => simp [intC] at hu

/-- what the reference's tree hands back -/
def TreeR (r : Option (List Int)) (n : Nat) (v : Value) (H' : Hp) : Prop := match r with
  | none => v = .tuple #[.slice none 0 0, .bool false]
  | some d => ∃ sv, v = .tuple #[sv, .bool true] ∧ RdSl H' 1 intC sv d ∧ d.length = n
theorem treeR_cases {r : Option (List Int)} {n : Nat} {v : Value} {H' : Hp} (h : TreeR r n v H') : (r = none ∧ v = .tuple #[.slice none 0 0, .bool false]) ∨ ∃ d sv, r = some d ∧ v = .tuple #[sv, .bool true] ∧ RdSl H' 1 intC sv d ∧ d.length = n := by
  cases r with
  | none => exact .inl ⟨rfl, h⟩
  | some d => obtain ⟨sv, h1, h2, h3⟩ := h; exact .inr ⟨d, sv, rfl, h1, h2, h3⟩

theorem treeS_F {l : List Term} {root : Int} (h : (160 : Int) < l.length ∨ root < 0 ∨ (l.length : Int) ≤ root) : treeS l root = none := by unfold treeS; rw [if_pos h]
theorem treeS_T {l : List Term} {root : Int} (h : (l.length : Int) ≤ 160 ∧ 0 ≤ root ∧ root < l.length) : treeS l root = treeLoop l (root + 1).toNat ((List.replicate l.length 0).set root.toNat 1) := by unfold treeS; rw [if_neg (by omega)]
theorem treeLoop_succ {l : List Term} {i : Int} {d : List Int} (h0 : 0 ≤ i) : treeLoop l (i + 1).toNat d = match treeStep l i d with | none => none | some d' => treeLoop l i.toNat d' := by
  rw [toNat_succ h0]
  simp only [treeLoop, Int.toNat_of_nonneg h0]
theorem tree_none {l : List Term} {i : Int} {d : List Int} {r : Option (List Int)} (h0 : 0 ≤ i) (h : r = treeLoop l (i + 1).toNat d) (hs : treeStep l i d = none) : r = none := by rw [h, treeLoop_succ h0, hs]
theorem tree_some {l : List Term} {i : Int} {d d' : List Int} {r : Option (List Int)} (h0 : 0 ≤ i) (h : r = treeLoop l (i + 1).toNat d) (hs : treeStep l i d = some d') : r = treeLoop l (i - 1 + 1).toNat d' := by rw [h, treeLoop_succ h0, hs, show i - 1 + 1 = i by omega]
theorem treeStep_0 {l : List Term} {i : Int} {d : List Int} (h : d[i.toNat]?.getD 0 = 0) : treeStep l i d = some d := by unfold treeStep; rw [if_pos h]
theorem treeStep_F {l : List Term} {i : Int} {d : List Int} {t : Term} (hx : l[i.toNat]? = some t) (h : ¬ d[i.toNat]?.getD 0 = 0) (ha : aloneB t = false ∨ 24 < d[i.toNat]?.getD 0) : treeStep l i d = none := by unfold treeStep; rw [if_neg h]; simp only [hx]; rw [if_pos ha]
theorem treeStep_T {l : List Term} {i : Int} {d : List Int} {t : Term} (hx : l[i.toNat]? = some t) (h : ¬ d[i.toNat]?.getD 0 = 0) (ha : aloneB t = true) (h24 : ¬ 24 < d[i.toNat]?.getD 0) : treeStep l i d = treeOps d i t := by
  unfold treeStep; rw [if_neg h]; simp only [hx]; rw [if_neg (by simp [ha]; omega)]
theorem treeOps_0 {d : List Int} {i : Int} {t : Term} (h : operandsI t.kind ≤ 0) : treeOps d i t = some d := by unfold treeOps; rw [if_pos h]
theorem treeOps_n {d : List Int} {i : Int} {t : Term} (h : ¬ operandsI t.kind ≤ 0) (h1 : treeOp d i t.l = none) : treeOps d i t = none := by unfold treeOps; rw [if_neg h, h1]
theorem treeOps_1 {d d1 : List Int} {i : Int} {t : Term} (h : ¬ operandsI t.kind ≤ 0) (h1 : treeOp d i t.l = some d1) (h2 : operandsI t.kind ≤ 1) : treeOps d i t = some d1 := by unfold treeOps; rw [if_neg h, h1]; simp only; rw [if_pos h2]
theorem treeOps_2 {d d1 : List Int} {i : Int} {t : Term} {r : Option (List Int)} (h : ¬ operandsI t.kind ≤ 0) (h1 : treeOp d i t.l = some d1) (h2 : ¬ operandsI t.kind ≤ 1) (h3 : treeOp d1 i t.r = r) : treeOps d i t = r := by unfold treeOps; rw [if_neg h, h1]; simp only; rw [if_neg h2, h3]
theorem treeOp_F {d : List Int} {i at_ : Int} (h : at_ < 0 ∨ i ≤ at_ ∨ 0 < d[at_.toNat]?.getD 0) : treeOp d i at_ = none := by unfold treeOp; rw [if_pos h]
theorem treeOp_T {d : List Int} {i at_ : Int} (h1 : ¬ at_ < 0) (h2 : ¬ i ≤ at_) (h3 : ¬ 0 < d[at_.toNat]?.getD 0) : treeOp d i at_ = some (d.set at_.toNat (d[i.toNat]?.getD 0 + 1)) := by unfold treeOp; rw [if_neg (by omega)]
theorem operandsI_le (k : Int) : operandsI k ≤ 2 := by unfold operandsI; (repeat' split) <;> omega
theorem set_ne {d : List Int} {i j : Nat} {x : Int} (h : j ≠ i) : (d.set j x)[i]?.getD 0 = d[i]?.getD 0 := by simp [h]
/-- every depth is at least 0 -/
def Nn (d : List Int) : Prop := ∀ i : Nat, 0 ≤ d[i]?.getD 0
theorem Nn_set {d : List Int} {j : Nat} {x : Int} (h : Nn d) (hx : 0 ≤ x) : Nn (d.set j x) := by
  intro i
  rw [List.getElem?_set]
  split
  · split
    · simpa using hx
    · simp
  · exact h i
theorem Nn_start (n r : Nat) : Nn ((List.replicate n 0).set r 1) := Nn_set (fun i => by rw [List.getElem?_replicate]; split <;> simp) (by omega)
theorem tree_end {l : List Term} {i : Int} {d : List Int} {r : Option (List Int)} (h : r = treeLoop l (i + 1).toNat d) (h0 : ¬ 0 ≤ i) : r = some d := by
  rw [h, show (i + 1).toNat = 0 by omega]; rfl
end Go.Sx

set_option linter.unusedVariables false
namespace Go.Sx
open Go
theorem mayW_Tr {l : List Term} : ∀ (f : Nat) (at_ deep : Int) (met : List Bool), 0 ≤ at_ → (mayW l f at_ deep met).1 = true → Tr l f at_ := by
  intro f
  induction f with
  | zero => intro at_ deep met _ h; simp [mayW] at h
  | succ f ih =>
    intro at_ deep met h0 h
    cases hx : l[at_.toNat]? with
    | none => simp [mayW, hx] at h
    | some t =>
      by_cases hg : met[at_.toNat]?.getD false = true ∨ 24 < deep ∨ operandsI t.kind < 0 ∨ fieldsB t = false
      · rw [mayW_F hx hg] at h; cases h
      · have hgg : MayG deep met at_ t := by
          refine ⟨?_, ?_, ?_, ?_⟩
          · cases hb : met[at_.toNat]?.getD false with
            | false => rfl
            | true => exact absurd (.inl hb) hg
          · intro h1; exact hg (.inr (.inl h1))
          · intro h1; exact hg (.inr (.inr (.inl h1)))
          · cases hb : fieldsB t with
            | true => rfl
            | false => exact absurd (.inr (.inr (.inr hb))) hg
        generalize h00 : opW (operandsI t.kind) at_ (fun to m => mayW l f to (deep + 1) m) 0 t.l (met.set at_.toNat true) = r0
        obtain ⟨b0, m0⟩ := r0
        cases b0 with
        | false => rw [mayW_0 hx hgg h00] at h; cases h
        | true =>
          generalize h11 : opW (operandsI t.kind) at_ (fun to m => mayW l f to (deep + 1) m) 1 t.r m0 = r1
          rw [mayW_1 hx hgg h00 h11] at h
          have key : ∀ (i to : Int) (m m' : List Bool), opW (operandsI t.kind) at_ (fun to m => mayW l f to (deep + 1) m) i to m = (true, m') → (i < operandsI t.kind → Tr l f to) ∧ (operandsI t.kind ≤ i → to = -1) := by
            intro i to m m' he
            refine ⟨fun hi => ?_, fun hi => ?_⟩
            · by_cases hb : to < 0 ∨ at_ ≤ to
              · rw [opW_bad (by omega) hb] at he; cases he
              · rw [opW_rec (by omega) (by omega) (by omega)] at he
                exact ih to (deep + 1) m (by omega) (by rw [he])
            · rw [opW_le hi] at he
              simpa using congrArg Prod.fst he
          have k0 := key 0 t.l _ _ h00
          have k1 := key 1 t.r _ r1.2 (by rw [h11]; cases r1; simp at h; simp [h])
          exact ⟨h0, t, hx, by have := hgg.2.2.1; omega, hgg.2.2.2, fun h => k0.1 (by omega), fun h => k0.2 (by omega), fun h => k1.1 (by omega), fun h => k1.2 (by omega)⟩

theorem mayB_Tr {l : List Term} {root : Int} (h : mayB l root = true) : Tr l (root.toNat + 1) root := by
  unfold mayB at h
  split at h
  · cases h
  · split at h
    · cases h
    · split at h
      · cases h
      · exact mayW_Tr _ _ _ _ (by omega) h
end Go.Sx

set_option linter.unusedVariables false
set_option linter.unusedSimpArgs false
namespace Go.Sx
open Go
section
variable {l : List Term} {env : List Typing} {f : Nat} {at_ : Int} {t : Term} (hx : l[at_.toNat]? = some t)
include hx
theorem kRef_0 (h : operandsI t.kind = 0) : kRef l env (f + 1) at_ = leafK t env := by simp only [kRef, hx]; rw [if_pos h]
theorem kRef_l (h : ¬ operandsI t.kind = 0) (h1 : ¬ (kRef l env f t.l).2 = 0) : kRef l env (f + 1) at_ = (0, (kRef l env f t.l).2) := by simp only [kRef, hx]; rw [if_neg h, if_pos h1]
theorem kRef_r (h : ¬ operandsI t.kind = 0) (h1 : (kRef l env f t.l).2 = 0) (h2 : operandsI t.kind = 2) (h3 : ¬ (kRef l env f t.r).2 = 0) : kRef l env (f + 1) at_ = (0, (kRef l env f t.r).2) := by simp only [kRef, hx]; rw [if_neg h, if_neg (by simpa using h1), if_pos h2, if_pos h3]
theorem kRef_2 (h : ¬ operandsI t.kind = 0) (h1 : (kRef l env f t.l).2 = 0) (h2 : operandsI t.kind = 2) (h3 : (kRef l env f t.r).2 = 0) : kRef l env (f + 1) at_ = ((mixedI t.kind (kRef l env f t.l).1 (kRef l env f t.r).1).1, (mixedI t.kind (kRef l env f t.l).1 (kRef l env f t.r).1).2) := by simp only [kRef, hx]; rw [if_neg h, if_neg (by simpa using h1), if_pos h2, if_neg (by simpa using h3)]
theorem kRef_1 (h : ¬ operandsI t.kind = 0) (h1 : (kRef l env f t.l).2 = 0) (h2 : ¬ operandsI t.kind = 2) : kRef l env (f + 1) at_ = ((mixedI t.kind (kRef l env f t.l).1 0).1, (mixedI t.kind (kRef l env f t.l).1 0).2) := by simp only [kRef, hx]; rw [if_neg h, if_neg (by simpa using h1), if_neg h2]
end

/-! ## the two ways to tell a valid tree -/
/-- a term's own form, and where its operands may stand -/
def okT (t : Term) (at_ deep : Int) : Bool :=
  (decide (0 ≤ operandsI t.kind) && fieldsB t) && ((decide (deep ≤ 24)) &&
  ((if operandsI t.kind < 1 then decide (t.l = -1) else decide (0 ≤ t.l) && decide (t.l < at_)) && (if operandsI t.kind < 2 then decide (t.r = -1) else decide (0 ≤ t.r) && decide (t.r < at_))))

/-- the places of a tree, the root first -/
def preL (l : List Term) : Nat → Nat → Int → Option (List Nat)
  | 0, _, _ => none
  | f + 1, at_, deep => match l[at_]? with
    | none => none
    | some t => if okT t at_ deep = false then none else
      match (if operandsI t.kind < 1 then some [] else preL l f t.l.toNat (deep + 1)) with
      | none => none
      | some p => match (if operandsI t.kind < 2 then some [] else preL l f t.r.toNat (deep + 1)) with
        | none => none
        | some q => some (at_ :: (p ++ q))

theorem okT_l {t : Term} {at_ deep : Int} (h : okT t at_ deep = true) (hk : ¬ operandsI t.kind < 1) : 0 ≤ t.l ∧ t.l < at_ := by
  unfold okT at h
  simp only [Bool.and_eq_true] at h
  have := h.2.2.1
  rw [if_neg hk] at this
  simpa using this
theorem okT_r {t : Term} {at_ deep : Int} (h : okT t at_ deep = true) (hk : ¬ operandsI t.kind < 2) : 0 ≤ t.r ∧ t.r < at_ := by
  unfold okT at h
  simp only [Bool.and_eq_true] at h
  have := h.2.2.2
  rw [if_neg hk] at this
  simpa using this

/-- a tree's places, written out -/
theorem preL_some {l : List Term} {f at_ : Nat} {deep : Int} {p : List Nat} (h : preL l (f + 1) at_ deep = some p) : ∃ t p0 q0, l[at_]? = some t ∧ okT t at_ deep = true ∧
    (if operandsI t.kind < 1 then some [] else preL l f t.l.toNat (deep + 1)) = some p0 ∧ (if operandsI t.kind < 2 then some [] else preL l f t.r.toNat (deep + 1)) = some q0 ∧ p = at_ :: (p0 ++ q0) := by
  simp only [preL] at h
  cases hx : l[at_]? with
  | none => rw [hx] at h; cases h
  | some t =>
    rw [hx] at h
    simp only at h
    cases hok : okT t at_ deep with
    | false => rw [hok] at h; simp at h
    | true =>
      rw [hok] at h
      simp only [Bool.true_eq_false, if_false] at h
      cases h0 : (if operandsI t.kind < 1 then some [] else preL l f t.l.toNat (deep + 1)) with
      | none => rw [h0] at h; cases h
      | some p0 =>
        rw [h0] at h
        simp only at h
        cases h1 : (if operandsI t.kind < 2 then some [] else preL l f t.r.toNat (deep + 1)) with
        | none => rw [h1] at h; cases h
        | some q0 =>
          rw [h1] at h
          simp only [Option.some.injEq] at h
          exact ⟨t, p0, q0, rfl, hok, h0, h1, h.symm⟩
theorem preL_mk {l : List Term} {f at_ : Nat} {deep : Int} {t : Term} {p0 q0 : List Nat} (hx : l[at_]? = some t) (hok : okT t at_ deep = true)
    (h0 : (if operandsI t.kind < 1 then some [] else preL l f t.l.toNat (deep + 1)) = some p0) (h1 : (if operandsI t.kind < 2 then some [] else preL l f t.r.toNat (deep + 1)) = some q0) : preL l (f + 1) at_ deep = some (at_ :: (p0 ++ q0)) := by
  simp only [preL, hx, hok, h0, h1]
  simp

theorem preL_le {l : List Term} : ∀ (f at_ : Nat) (deep : Int) (p : List Nat), preL l f at_ deep = some p → ∀ x ∈ p, x ≤ at_ := by
  intro f
  induction f with
  | zero => intro at_ deep p h; simp [preL] at h
  | succ f ih =>
    intro at_ deep p h
    obtain ⟨t, p0, q0, hx, hok, h0, h1, rfl⟩ := preL_some h
    intro x hx'
    rcases List.mem_cons.1 hx' with rfl | hx'
    · exact Nat.le_refl _
    rcases List.mem_append.1 hx' with hx' | hx'
    · split at h0
      · simp only [Option.some.injEq] at h0; subst h0; cases hx'
      · rename_i hk
        have := okT_l hok hk
        have := ih _ _ _ h0 x hx'
        omega
    · split at h1
      · simp only [Option.some.injEq] at h1; subst h1; cases hx'
      · rename_i hk
        have := okT_r hok hk
        have := ih _ _ _ h1 x hx'
        omega
theorem preL_self {l : List Term} {f at_ : Nat} {deep : Int} {p : List Nat} (h : preL l f at_ deep = some p) : at_ ∈ p := by
  cases f with
  | zero => simp [preL] at h
  | succ f => obtain ⟨t, p0, q0, hx, hok, h0, h1, rfl⟩ := preL_some h; simp

/-- more fuel than needed makes no difference -/
theorem preL_fuel {l : List Term} : ∀ (f g at_ : Nat) (deep : Int), at_ < f → at_ < g → preL l f at_ deep = preL l g at_ deep := by
  intro f
  induction f with
  | zero => intro g at_ deep h; omega
  | succ f ih =>
    intro g at_ deep hf hg
    cases g with
    | zero => omega
    | succ g =>
      simp only [preL]
      cases hx : l[at_]? with
      | none => rfl
      | some t =>
        simp only
        cases hok : okT t at_ deep with
        | false => simp
        | true =>
          simp only [Bool.true_eq_false, if_false]
          have e0 : (if operandsI t.kind < 1 then some [] else preL l f t.l.toNat (deep + 1)) = (if operandsI t.kind < 1 then some [] else preL l g t.l.toNat (deep + 1)) := by
            split
            · rfl
            · rename_i hk; have := okT_l hok hk; exact ih g _ _ (by omega) (by omega)
          have e1 : (if operandsI t.kind < 2 then some [] else preL l f t.r.toNat (deep + 1)) = (if operandsI t.kind < 2 then some [] else preL l g t.r.toNat (deep + 1)) := by
            split
            · rfl
            · rename_i hk; have := okT_r hok hk; exact ih g _ _ (by omega) (by omega)
          rw [e0, e1]

/-! the program's walk -/
def Clear (met : List Bool) (p : List Nat) : Prop := ∀ x ∈ p, met[x]?.getD false = false

theorem getD_set {met : List Bool} {i y : Nat} (h : i < met.length) : (met.set i true)[y]?.getD false = (met[y]?.getD false || decide (y = i)) := by
  by_cases hy : y = i
  · subst hy; simp [h]
  · simp [hy, List.getElem?_set, Ne.symm hy]

theorem okT_of {t : Term} {at_ deep : Int} (h1 : 0 ≤ operandsI t.kind) (h2 : fieldsB t = true) (h3 : deep ≤ 24) (h4 : operandsI t.kind < 1 → t.l = -1) (h5 : ¬ operandsI t.kind < 1 → 0 ≤ t.l ∧ t.l < at_)
    (h6 : operandsI t.kind < 2 → t.r = -1) (h7 : ¬ operandsI t.kind < 2 → 0 ≤ t.r ∧ t.r < at_) : okT t at_ deep = true := by
  unfold okT
  simp only [Bool.and_eq_true, decide_eq_true_eq]
  refine ⟨⟨h1, h2⟩, h3, ?_, ?_⟩
  · split
    · rename_i h; simpa using h4 h
    · rename_i h; simpa using h5 h
  · split
    · rename_i h; simpa using h6 h
    · rename_i h; simpa using h7 h

theorem mayW_pre {l : List Term} : ∀ (f : Nat) (at_ deep : Int) (met : List Bool), 0 ≤ at_ → at_ < l.length → at_.toNat < f → met.length = l.length →
    ((∃ p, preL l f at_.toNat deep = some p ∧ p.Nodup ∧ Clear met p) → (mayW l f at_ deep met).1 = true) ∧
    ((mayW l f at_ deep met).1 = true → ∃ p, preL l f at_.toNat deep = some p ∧ p.Nodup ∧ Clear met p ∧ (∀ y, (mayW l f at_ deep met).2[y]?.getD false = (met[y]?.getD false || decide (y ∈ p))) ∧ (mayW l f at_ deep met).2.length = l.length) := by
  intro f
  induction f with
  | zero => intro at_ deep met h0 h1 h2; omega
  | succ f ih =>
    intro at_ deep met h0 h1 hf hlen
    obtain ⟨t, hx⟩ := getSome h0 h1
    have hlt : at_.toNat < met.length := by omega
    have hcast : ((at_.toNat : Nat) : Int) = at_ := Int.toNat_of_nonneg h0
    by_cases hg : MayG deep met at_ t
    · obtain ⟨g1, g2, g3, g4⟩ := hg
      have hgg : MayG deep met at_ t := ⟨g1, g2, g3, g4⟩
      -- one operand
      have op : ∀ (i to : Int) (m : List Bool), m.length = l.length → i < 2 → 0 ≤ i → (0 ≤ to → to < at_ → operandsI t.kind > i →
          ((∃ p, preL l f to.toNat (deep + 1) = some p ∧ p.Nodup ∧ Clear m p) → (mayW l f to (deep + 1) m).1 = true) ∧
          ((mayW l f to (deep + 1) m).1 = true → ∃ p, preL l f to.toNat (deep + 1) = some p ∧ p.Nodup ∧ Clear m p ∧ (∀ y, (mayW l f to (deep + 1) m).2[y]?.getD false = (m[y]?.getD false || decide (y ∈ p))) ∧ (mayW l f to (deep + 1) m).2.length = l.length)) :=
        fun i to m hm _ _ ht0 ht1 _ => ih to (deep + 1) m ht0 (by omega) (by omega) hm
      have side : ∀ (i to : Int) (m : List Bool), m.length = l.length → 0 ≤ i → i < 2 →
          (((operandsI t.kind < i + 1 → to = -1) ∧ (¬ operandsI t.kind < i + 1 → 0 ≤ to ∧ to < at_) ∧ ∃ p, (if operandsI t.kind < i + 1 then some [] else preL l f to.toNat (deep + 1)) = some p ∧ p.Nodup ∧ Clear m p) → (opW (operandsI t.kind) at_ (fun to m => mayW l f to (deep + 1) m) i to m).1 = true) ∧
          ((opW (operandsI t.kind) at_ (fun to m => mayW l f to (deep + 1) m) i to m).1 = true → (operandsI t.kind < i + 1 → to = -1) ∧ (¬ operandsI t.kind < i + 1 → 0 ≤ to ∧ to < at_) ∧
            ∃ p, (if operandsI t.kind < i + 1 then some [] else preL l f to.toNat (deep + 1)) = some p ∧ p.Nodup ∧ Clear m p ∧ (∀ y, (opW (operandsI t.kind) at_ (fun to m => mayW l f to (deep + 1) m) i to m).2[y]?.getD false = (m[y]?.getD false || decide (y ∈ p))) ∧ (opW (operandsI t.kind) at_ (fun to m => mayW l f to (deep + 1) m) i to m).2.length = l.length) := by
        intro i to m hm hi0 hi2
        by_cases hk : operandsI t.kind ≤ i
        · rw [opW_le hk]
          have hk' : operandsI t.kind < i + 1 := by omega
          refine ⟨fun h => by simpa using h.1 hk', fun h => ⟨fun _ => by simpa using h, fun hn => absurd hk' hn, [], by rw [if_pos hk'], List.nodup_nil, by simp [Clear], by simp, hm⟩⟩
        · have hk' : ¬ operandsI t.kind < i + 1 := by omega
          by_cases hb : to < 0 ∨ at_ ≤ to
          · rw [opW_bad hk hb]
            refine ⟨fun h => ?_, fun h => by cases h⟩
            have := h.2.1 hk'
            omega
          · rw [opW_rec hk (by omega) (by omega)]
            have hh := op i to m hm hi2 hi0 (by omega) (by omega) (by omega)
            refine ⟨fun h => ?_, fun h => ?_⟩
            · obtain ⟨_, _, p, h1, h2, h3⟩ := h
              rw [if_neg hk'] at h1
              exact hh.1 ⟨p, h1, h2, h3⟩
            · obtain ⟨p, h1, h2, h3, h4, h5⟩ := hh.2 h
              exact ⟨fun hn => absurd hn hk', fun _ => by omega, p, by rw [if_neg hk']; exact h1, h2, h3, h4, h5⟩
      have hm1 : (met.set at_.toNat true).length = l.length := by simp [hlen]
      have s0 := side 0 t.l (met.set at_.toNat true) hm1 (by omega) (by omega)
      generalize h00 : opW (operandsI t.kind) at_ (fun to m => mayW l f to (deep + 1) m) 0 t.l (met.set at_.toNat true) = r0 at s0
      obtain ⟨b0, m0⟩ := r0
      simp only [Int.zero_add] at s0
      constructor
      · rintro ⟨p, hp, hnd, hcl⟩
        obtain ⟨t', p0, q0, hx', hok, e0, e1, rfl⟩ := preL_some hp
        obtain rfl : t = t' := by rw [hx] at hx'; exact Option.some.inj hx'
        rw [hcast] at hok
        simp only [List.nodup_cons, List.nodup_append, List.mem_append, not_or] at hnd
        obtain ⟨⟨n1, n2⟩, n3, n4, n5⟩ := hnd
        have ok' := hok
        unfold okT at ok'
        simp only [Bool.and_eq_true, decide_eq_true_eq] at ok'
        have hb0 : b0 = true := by
          refine s0.1 ⟨fun hk => ?_, fun hk => okT_l hok hk, p0, e0, n3, fun x hxp => ?_⟩
          · have := ok'.2.2.1; rw [if_pos hk] at this; simpa using this
          · rw [getD_set hlt]
            have hne : x ≠ at_.toNat := fun e => n1 (e ▸ hxp)
            simp [hne, hcl x (by simp [hxp])]
        subst hb0
        obtain ⟨_, _, p0', e0', _, _, hm0, hl0⟩ := s0.2 rfl
        obtain rfl : p0 = p0' := by rw [e0] at e0'; exact Option.some.inj e0'
        have s1 := side 1 t.r m0 hl0 (by omega) (by omega)
        simp only [show (1 : Int) + 1 = 2 from rfl] at s1
        rw [mayW_1 hx hgg h00 rfl]
        refine s1.1 ⟨fun hk => ?_, fun hk => okT_r hok hk, q0, e1, n4, fun x hxq => ?_⟩
        · have := ok'.2.2.2; rw [if_pos hk] at this; simpa using this
        · rw [hm0, getD_set hlt]
          have hne : x ≠ at_.toNat := fun e => n2 (e ▸ hxq)
          have hnp : x ∉ p0 := fun hxp => n5 x hxp x hxq rfl
          simp [hne, hnp, hcl x (by simp [hxq])]
      · intro hb
        cases b0 with
        | false => rw [mayW_0 hx hgg h00] at hb; cases hb
        | true =>
          obtain ⟨a1, a2, p0, e0, n3, c0, hm0, hl0⟩ := s0.2 rfl
          have s1 := side 1 t.r m0 hl0 (by omega) (by omega)
          simp only [show (1 : Int) + 1 = 2 from rfl] at s1
          rw [mayW_1 hx hgg h00 rfl] at hb ⊢
          obtain ⟨a3, a4, q0, e1, n4, c1, hm2, hl2⟩ := s1.2 hb
          have hok : okT t at_.toNat deep = true := by
            rw [hcast]; exact okT_of (by omega) g4 (by omega) a1 a2 a3 a4
          have hat0 : at_.toNat ∉ p0 := fun hh => by
            have := c0 _ hh; rw [getD_set hlt] at this; simp at this
          have hat1 : at_.toNat ∉ q0 := fun hh => by
            have := c1 _ hh; rw [hm0, getD_set hlt] at this; simp at this
          refine ⟨at_.toNat :: (p0 ++ q0), preL_mk hx hok e0 e1, ?_, ?_, ?_, hl2⟩
          · simp only [List.nodup_cons, List.nodup_append, List.mem_append, not_or]
            refine ⟨⟨hat0, hat1⟩, n3, n4, fun x hxp y hyq e => ?_⟩
            subst e
            have := c1 x hyq
            rw [hm0] at this
            simp [hxp] at this
          · intro x hxp
            rcases List.mem_cons.1 hxp with rfl | hxp
            · exact g1
            rcases List.mem_append.1 hxp with hxp | hxp
            · have := c0 x hxp; rw [getD_set hlt] at this; simp at this; exact this.1
            · have := c1 x hxp; rw [hm0, getD_set hlt] at this; simp at this; exact this.1.1
          · intro y
            rw [hm2, hm0, getD_set hlt]
            simp only [List.mem_cons, List.mem_append, Bool.or_assoc]
            congr 1
            rw [Bool.eq_iff_iff]
            simp
    · have hbad : met[at_.toNat]?.getD false = true ∨ 24 < deep ∨ operandsI t.kind < 0 ∨ fieldsB t = false := by
        by_cases a1 : met[at_.toNat]?.getD false = true
        · exact .inl a1
        by_cases a2 : 24 < deep
        · exact .inr (.inl a2)
        by_cases a3 : operandsI t.kind < 0
        · exact .inr (.inr (.inl a3))
        by_cases a4 : fieldsB t = false
        · exact .inr (.inr (.inr a4))
        exact absurd ⟨by simpa using a1, a2, a3, by simpa using a4⟩ hg
      rw [mayW_F hx hbad]
      refine ⟨fun h => ?_, fun h => by cases h⟩
      obtain ⟨p, hp, hnd, hcl⟩ := h
      obtain ⟨t', p0, q0, hx', hok, e0, e1, rfl⟩ := preL_some hp
      obtain rfl : t = t' := by rw [hx] at hx'; exact Option.some.inj hx'
      unfold okT at hok
      simp only [Bool.and_eq_true, decide_eq_true_eq] at hok
      have hself := hcl at_.toNat (by simp)
      rcases hbad with h | h | h | h
      · rw [hself] at h; cases h
      · omega
      · omega
      · rw [hok.1.2] at h; cases h

theorem may_pre {l : List Term} {root : Int} (hr : 0 ≤ root ∧ root < l.length) : (mayW l (root.toNat + 1) root 1 (List.replicate l.length false)).1 = true ↔ ∃ p, preL l (root.toNat + 1) root.toNat 1 = some p ∧ p.Nodup := by
  have h := mayW_pre (l := l) (root.toNat + 1) root 1 (List.replicate l.length false) hr.1 hr.2 (by omega) (by simp)
  constructor
  · intro hb
    obtain ⟨p, h1, h2, _⟩ := h.2 hb
    exact ⟨p, h1, h2⟩
  · rintro ⟨p, h1, h2⟩
    exact h.1 ⟨p, h1, h2, fun x _ => by rw [List.getElem?_replicate]; split <;> rfl⟩

/-! the reference's scan -/
def cc (l : List Term) (a : Nat) (v : Int) (y : Nat) : Nat := match preL l (a + 1) a v with
  | some p => p.count y
  | none => 0
/-- how often y stands in the trees of the places below n that have a depth -/
def cnt (l : List Term) : Nat → List Int → Nat → Nat
  | 0, _, _ => 0
  | n + 1, d, y => cnt l n d y + (if d[n]?.getD 0 = 0 then 0 else cc l n (d[n]?.getD 0) y)
def gd (l : List Term) : Nat → List Int → Prop
  | 0, _ => True
  | n + 1, d => gd l n d ∧ (d[n]?.getD 0 = 0 ∨ (preL l (n + 1) n (d[n]?.getD 0)).isSome = true)
def Fgood (l : List Term) (n : Nat) (d : List Int) : Prop := gd l n d ∧ ∀ y, cnt l n d y ≤ 1

theorem cnt_ge {l : List Term} : ∀ (n : Nat) (d : List Int) (y : Nat), n ≤ y → cnt l n d y = 0
  | 0, _, _, _ => rfl
  | n + 1, d, y, h => by
    simp only [cnt, cnt_ge n d y (by omega), Nat.zero_add]
    split
    · rfl
    · unfold cc
      split
      · rename_i p hp
        refine List.count_eq_zero.2 (fun hm => ?_)
        have := preL_le _ _ _ _ hp y hm
        omega
      · rfl

theorem cnt_set_ge {l : List Term} {a : Nat} {v : Int} {y : Nat} : ∀ (n : Nat) (d : List Int), n ≤ a → cnt l n (d.set a v) y = cnt l n d y
  | 0, _, _ => rfl
  | n + 1, d, h => by
    simp only [cnt, cnt_set_ge (a := a) (v := v) n d (by omega), set_ne (show a ≠ n by omega)]
theorem gd_set_ge {l : List Term} {a : Nat} {v : Int} : ∀ (n : Nat) (d : List Int), n ≤ a → (gd l n (d.set a v) ↔ gd l n d)
  | 0, _, _ => Iff.rfl
  | n + 1, d, h => by
    simp only [gd, gd_set_ge (a := a) (v := v) n d (by omega), set_ne (show a ≠ n by omega)]
theorem set_eq {d : List Int} {a : Nat} {v : Int} (h : a < d.length) : (d.set a v)[a]?.getD 0 = v := by simp [h]

theorem cnt_set {l : List Term} {a : Nat} {v : Int} {y : Nat} : ∀ (n : Nat) (d : List Int), a < n → a < d.length → d[a]?.getD 0 = 0 → 0 < v → cnt l n (d.set a v) y = cnt l n d y + cc l a v y
  | 0, _, h, _, _, _ => by omega
  | n + 1, d, h, hl, h0, hv => by
    by_cases ha : a = n
    · subst ha
      simp only [cnt, cnt_set_ge a d (Nat.le_refl _), set_eq hl, h0, if_true]
      rw [if_neg (by omega)]
      omega
    · simp only [cnt, cnt_set n d (by omega) hl h0 hv, set_ne ha]
      omega
theorem gd_set {l : List Term} {a : Nat} {v : Int} : ∀ (n : Nat) (d : List Int), a < n → a < d.length → d[a]?.getD 0 = 0 → 0 < v → (gd l n (d.set a v) ↔ gd l n d ∧ (preL l (a + 1) a v).isSome = true)
  | 0, _, h, _, _, _ => by omega
  | n + 1, d, h, hl, h0, hv => by
    by_cases ha : a = n
    · subst ha
      simp only [gd, gd_set_ge a d (Nat.le_refl _), set_eq hl, h0, true_or, and_true]
      constructor
      · rintro ⟨h1, h2⟩
        refine ⟨h1, h2.resolve_left (by omega)⟩
      · rintro ⟨h1, h2⟩; exact ⟨h1, .inr h2⟩
    · simp only [gd, gd_set n d (by omega) hl h0 hv, set_ne ha]
      constructor
      · rintro ⟨⟨h1, h2⟩, h3⟩; exact ⟨⟨h1, h3⟩, h2⟩
      · rintro ⟨⟨h1, h3⟩, h2⟩; exact ⟨⟨h1, h2⟩, h3⟩

theorem cnt_pos {l : List Term} {a : Nat} : ∀ (n : Nat) (d : List Int), a < n → ¬ d[a]?.getD 0 = 0 → gd l n d → 1 ≤ cnt l n d a
  | 0, _, h, _, _ => by omega
  | n + 1, d, h, h0, hg => by
    simp only [cnt]
    by_cases ha : a = n
    · subst ha
      rw [if_neg h0]
      have := hg.2.resolve_left h0
      obtain ⟨p, hp⟩ := Option.isSome_iff_exists.1 this
      unfold cc
      rw [hp]
      have := List.count_pos_iff.2 (preL_self hp)
      simp only
      omega
    · have := cnt_pos n d (by omega) h0 hg.1
      omega

theorem aloneB_iff {t : Term} : aloneB t = true ↔ 0 ≤ operandsI t.kind ∧ fieldsB t = true ∧ (operandsI t.kind < 1 → t.l = -1) ∧ (operandsI t.kind < 2 → t.r = -1) := by
  have hform : formB t = false ↔ 0 ≤ operandsI t.kind ∧ (operandsI t.kind < 2 → t.r = -1) ∧ (operandsI t.kind < 1 → t.l = -1) := by
    unfold formB
    simp only [Bool.or_eq_false_iff, Bool.and_eq_false_iff, decide_eq_false_iff_not, Bool.not_eq_false', decide_eq_true_eq]
    constructor
    · rintro ⟨h1, h2, h3⟩
      exact ⟨by omega, fun h => h2.resolve_left (by omega), fun h => h3.resolve_left (by omega)⟩
    · rintro ⟨h1, h2, h3⟩
      refine ⟨by omega, ?_, ?_⟩
      · by_cases h : operandsI t.kind < 2
        · exact .inr (h2 h)
        · exact .inl h
      · by_cases h : operandsI t.kind < 1
        · exact .inr (h3 h)
        · exact .inl h
  have hf : (nameB t && (numB t && textB t)) = fieldsB t := by
    unfold nameB numB textB fieldsB
    by_cases k0 : t.kind = 0
    · simp [k0]
    by_cases k1 : t.kind = 1
    · simp [k1]
    by_cases k2 : t.kind = 2
    · simp only [k2]
      simp
      by_cases a : t.name = [] <;> by_cases b : t.text = [] <;> by_cases c : t.n = 0 <;> by_cases e : t.n = 1 <;> simp [a, b, c, e]
    by_cases k3 : t.kind = 3
    · simp only [k3]
      simp
      by_cases a : t.name = [] <;> by_cases b : t.text = [] <;> by_cases c : t.n = 0 <;> simp [a, b, c]
    · simp [k0, k1, k2, k3]
  unfold aloneB
  rw [Bool.and_eq_true, hf, Bool.not_eq_true', hform]
  constructor
  · rintro ⟨⟨h1, h2, h3⟩, h4⟩; exact ⟨h1, h4, h3, h2⟩
  · rintro ⟨h1, h2, h3, h4⟩; exact ⟨⟨h1, h4, h3⟩, h2⟩

theorem okT_iff {t : Term} {at_ deep : Int} : okT t at_ deep = true ↔ aloneB t = true ∧ deep ≤ 24 ∧ (¬ operandsI t.kind < 1 → 0 ≤ t.l ∧ t.l < at_) ∧ (¬ operandsI t.kind < 2 → 0 ≤ t.r ∧ t.r < at_) := by
  rw [aloneB_iff]
  constructor
  · intro h
    have ok' := h
    unfold okT at ok'
    simp only [Bool.and_eq_true, decide_eq_true_eq] at ok'
    refine ⟨⟨ok'.1.1, ok'.1.2, fun hk => ?_, fun hk => ?_⟩, ok'.2.1, okT_l h, okT_r h⟩
    · have := ok'.2.2.1; rw [if_pos hk] at this; simpa using this
    · have := ok'.2.2.2; rw [if_pos hk] at this; simpa using this
  · rintro ⟨⟨h1, h2, h3, h4⟩, h5, h6, h7⟩
    exact okT_of h1 h2 h5 h3 h6 h4 h7

theorem preL_none_of {l : List Term} {n : Nat} {v : Int} {t : Term} (hx : l[n]? = some t) (h : ¬ okT t n v = true) : (preL l (n + 1) n v).isSome = false := by
  cases hp : preL l (n + 1) n v with
  | none => rfl
  | some p =>
    obtain ⟨t', p0, q0, hx', hok, _⟩ := preL_some hp
    obtain rfl : t = t' := by rw [hx] at hx'; exact Option.some.inj hx'
    exact absurd hok h

/-- the scan goes through from place n down, just where the trees of the places below n, each at its depth, are well formed and have no place twice -/
theorem scan {l : List Term} : ∀ (n : Nat) (d : List Int), n ≤ l.length → d.length = l.length → Nn d → ((treeLoop l n d).isSome = true ↔ Fgood l n d) := by
  intro n
  induction n with
  | zero => intro d _ _ _; exact ⟨fun _ => ⟨trivial, fun y => by simp [cnt]⟩, fun _ => rfl⟩
  | succ n ih =>
    intro d hn hd hnn
    have hN := hnn n
    simp only [treeLoop]
    by_cases h0 : d[n]?.getD 0 = 0
    · rw [treeStep_0 (by simpa using h0)]
      simp only
      rw [ih d (by omega) hd hnn]
      unfold Fgood
      simp only [gd, cnt, h0, if_true, true_or, and_true, Nat.add_zero]
    · obtain ⟨t, hx⟩ : ∃ t, l[n]? = some t := ⟨l[n]'(by omega), List.getElem?_eq_getElem (by omega)⟩
      have hpos : 0 < d[n]?.getD 0 := by omega
      have gdN : gd l (n + 1) d → (preL l (n + 1) n (d[n]?.getD 0)).isSome = true := fun h => h.2.resolve_left h0
      by_cases hbad : aloneB t = false ∨ 24 < d[n]?.getD 0
      · rw [treeStep_F (t := t) (by simpa using hx) (by simpa using h0) (by simpa using hbad)]
        refine ⟨fun h => (by cases h), fun h => ?_⟩
        have h1 := gdN h.1
        rw [preL_none_of hx (fun hok => ?_)] at h1
        · cases h1
        · rw [okT_iff] at hok
          rcases hbad with hb | hb
          · rw [hok.1] at hb; cases hb
          · omega
      · have hal : aloneB t = true := by
          cases hb : aloneB t with
          | true => rfl
          | false => exact absurd (.inl hb) hbad
        have h24 : ¬ 24 < d[n]?.getD 0 := fun h => hbad (.inr h)
        rw [treeStep_T (t := t) (by simpa using hx) (by simpa using h0) hal (by simpa using h24)]
        have hself0 : cnt l n d n = 0 := cnt_ge n d n (Nat.le_refl _)
        by_cases k1 : operandsI t.kind < 1
        · rw [treeOps_0 (by omega)]
          simp only
          rw [ih d (by omega) hd hnn]
          have hok : okT t n (d[n]?.getD 0) = true := okT_iff.2 ⟨hal, by omega, fun h => absurd k1 h, fun h => absurd (by omega) h⟩
          have hp : preL l (n + 1) n (d[n]?.getD 0) = some (n :: ([] ++ [])) := preL_mk hx hok (by rw [if_pos k1]) (by rw [if_pos (by omega)])
          have hc : ∀ y, cnt l (n + 1) d y = cnt l n d y + [n].count y := fun y => by
            simp only [cnt, if_neg h0]; unfold cc; rw [hp]; simp
          unfold Fgood
          constructor
          · rintro ⟨a, b⟩
            refine ⟨⟨a, .inr (by rw [hp]; rfl)⟩, fun y => ?_⟩
            rw [hc]
            by_cases hy : y = n
            · subst hy; rw [hself0]; simp
            · have : [n].count y = 0 := List.count_eq_zero.2 (by simpa using hy)
              have := b y; omega
          · rintro ⟨a, b⟩
            exact ⟨a.1, fun y => by have := b y; rw [hc] at this; omega⟩
        · have k1' : ¬ operandsI t.kind ≤ 0 := by omega
          by_cases hb1 : t.l < 0 ∨ (n : Int) ≤ t.l ∨ 0 < d[t.l.toNat]?.getD 0
          · rw [treeOps_n k1' (treeOp_F hb1)]
            refine ⟨fun h => (by cases h), fun h => ?_⟩
            have h1 := gdN h.1
            obtain ⟨p, hp⟩ := Option.isSome_iff_exists.1 h1
            obtain ⟨t', p0, q0, hx', hok, e0, e1, rfl⟩ := preL_some hp
            obtain rfl : t = t' := by rw [hx] at hx'; exact Option.some.inj hx'
            have hl := okT_l hok k1
            rw [if_neg k1] at e0
            have hpos' := hb1.resolve_left (by omega) |>.resolve_left (by omega)
            have c1 := cnt_pos (l := l) n d (a := t.l.toNat) (by omega) (by omega) h.1.1
            have c2 := h.2 t.l.toNat
            simp only [cnt, if_neg h0] at c2
            unfold cc at c2
            rw [hp] at c2
            have hm : 1 ≤ (n :: (p0 ++ q0)).count t.l.toNat := List.count_pos_iff.2 (by simp [preL_self e0])
            simp only at c2
            omega
          · have b1 : ¬ t.l < 0 := fun h => hb1 (.inl h)
            have b2 : ¬ (n : Int) ≤ t.l := fun h => hb1 (.inr (.inl h))
            have b3 : ¬ 0 < d[t.l.toNat]?.getD 0 := fun h => hb1 (.inr (.inr h))
            have b3' : d[t.l.toNat]?.getD 0 = 0 := by have := hnn t.l.toNat; omega
            have o1 := treeOp_T (d := d) (i := (n : Int)) b1 b2 b3
            simp only [Int.toNat_natCast] at o1
            have hln : t.l.toNat < n := by omega
            have hl1 : (d.set t.l.toNat (d[n]?.getD 0 + 1)).length = l.length := by simp [hd]
            have hnn1 : Nn (d.set t.l.toNat (d[n]?.getD 0 + 1)) := Nn_set hnn (by omega)
            have cs1 : ∀ y, cnt l n (d.set t.l.toNat (d[n]?.getD 0 + 1)) y = cnt l n d y + cc l t.l.toNat (d[n]?.getD 0 + 1) y := fun y => cnt_set n d hln (by omega) b3' (by omega)
            have gs1 := gd_set (l := l) (v := d[n]?.getD 0 + 1) n d hln (by omega) b3' (by omega)
            have fu1 : preL l n t.l.toNat (d[n]?.getD 0 + 1) = preL l (t.l.toNat + 1) t.l.toNat (d[n]?.getD 0 + 1) := preL_fuel _ _ _ _ hln (by omega)
            by_cases k2 : operandsI t.kind < 2
            · rw [treeOps_1 k1' o1 (by omega)]
              simp only
              rw [ih _ (by omega) hl1 hnn1]
              have hok : okT t n (d[n]?.getD 0) = true := okT_iff.2 ⟨hal, by omega, fun _ => by omega, fun h => absurd k2 h⟩
              unfold Fgood
              rw [gs1]
              cases hp0 : preL l (t.l.toNat + 1) t.l.toNat (d[n]?.getD 0 + 1) with
              | none =>
                refine ⟨fun h => by simp at h, fun h => ?_⟩
                have h1 := gdN h.1
                obtain ⟨p, hp⟩ := Option.isSome_iff_exists.1 h1
                obtain ⟨t', p0, q0, hx', _, e0, e1, rfl⟩ := preL_some hp
                obtain rfl : t = t' := by rw [hx] at hx'; exact Option.some.inj hx'
                rw [if_neg k1, fu1, hp0] at e0
                cases e0
              | some p0 =>
                have hp : preL l (n + 1) n (d[n]?.getD 0) = some (n :: (p0 ++ [])) := preL_mk hx hok (by rw [if_neg k1, fu1, hp0]) (by rw [if_pos k2])
                have hc : ∀ y, cnt l (n + 1) d y = cnt l n d y + (n :: (p0 ++ [])).count y := fun y => by
                  simp only [cnt, if_neg h0]; unfold cc; rw [hp]
                have hc0 : ∀ y, cc l t.l.toNat (d[n]?.getD 0 + 1) y = p0.count y := fun y => by unfold cc; rw [hp0]
                have hn0 : p0.count n = 0 := List.count_eq_zero.2 (fun hm => by have := preL_le _ _ _ _ hp0 n hm; omega)
                constructor
                · rintro ⟨⟨a, _⟩, b⟩
                  refine ⟨⟨a, .inr (by rw [hp]; rfl)⟩, fun y => ?_⟩
                  have := b y
                  rw [cs1, hc0] at this
                  rw [hc]
                  by_cases hy : y = n
                  · subst hy; simp [hself0, hn0]
                  · simp only [List.append_nil, List.count_cons, beq_iff_eq, Ne.symm hy, if_false]; omega
                · rintro ⟨a, b⟩
                  refine ⟨⟨a.1, rfl⟩, fun y => ?_⟩
                  have := b y
                  rw [hc] at this
                  simp only [List.append_nil, List.count_cons] at this
                  rw [cs1, hc0]
                  omega
            · by_cases hb2 : t.r < 0 ∨ (n : Int) ≤ t.r ∨ 0 < (d.set t.l.toNat (d[n]?.getD 0 + 1))[t.r.toNat]?.getD 0
              · rw [treeOps_2 k1' o1 (by omega) (treeOp_F hb2)]
                refine ⟨fun h => (by cases h), fun h => ?_⟩
                have h1 := gdN h.1
                obtain ⟨p, hp⟩ := Option.isSome_iff_exists.1 h1
                obtain ⟨t', p0, q0, hx', hok, e0, e1, rfl⟩ := preL_some hp
                obtain rfl : t = t' := by rw [hx] at hx'; exact Option.some.inj hx'
                have hr := okT_r hok k2
                rw [if_neg k1] at e0
                rw [if_neg k2] at e1
                have hpos' := hb2.resolve_left (by omega) |>.resolve_left (by omega)
                have c2 := h.2 t.r.toNat
                simp only [cnt, if_neg h0] at c2
                unfold cc at c2
                rw [hp] at c2
                simp only [List.count_cons, List.count_append] at c2
                have hm : 1 ≤ q0.count t.r.toNat := List.count_pos_iff.2 (preL_self e1)
                by_cases he : t.l.toNat = t.r.toNat
                · have hm' : 1 ≤ p0.count t.r.toNat := List.count_pos_iff.2 (he ▸ preL_self e0)
                  omega
                · rw [set_ne he] at hpos'
                  have c1 := cnt_pos (l := l) n d (a := t.r.toNat) (by omega) (by omega) h.1.1
                  omega
              · have b4 : ¬ t.r < 0 := fun h => hb2 (.inl h)
                have b5 : ¬ (n : Int) ≤ t.r := fun h => hb2 (.inr (.inl h))
                have b6 : ¬ 0 < (d.set t.l.toNat (d[n]?.getD 0 + 1))[t.r.toNat]?.getD 0 := fun h => hb2 (.inr (.inr h))
                have b6' : (d.set t.l.toNat (d[n]?.getD 0 + 1))[t.r.toNat]?.getD 0 = 0 := by have := hnn1 t.r.toNat; omega
                have o2 := treeOp_T (d := d.set t.l.toNat (d[n]?.getD 0 + 1)) (i := (n : Int)) b4 b5 b6
                simp only [Int.toNat_natCast, set_ne (show t.l.toNat ≠ n by omega)] at o2
                have hrn : t.r.toNat < n := by omega
                rw [treeOps_2 k1' o1 (by omega) o2]
                simp only
                rw [ih _ (by omega) (by simp [hd]) (Nn_set hnn1 (by omega))]
                have cs2 : ∀ y, cnt l n ((d.set t.l.toNat (d[n]?.getD 0 + 1)).set t.r.toNat (d[n]?.getD 0 + 1)) y = cnt l n d y + cc l t.l.toNat (d[n]?.getD 0 + 1) y + cc l t.r.toNat (d[n]?.getD 0 + 1) y := fun y => by
                  rw [cnt_set n _ hrn (by omega) b6' (by omega), cs1]
                have gs2 := gd_set (l := l) (v := d[n]?.getD 0 + 1) n (d.set t.l.toNat (d[n]?.getD 0 + 1)) hrn (by omega) b6' (by omega)
                have fu2 : preL l n t.r.toNat (d[n]?.getD 0 + 1) = preL l (t.r.toNat + 1) t.r.toNat (d[n]?.getD 0 + 1) := preL_fuel _ _ _ _ hrn (by omega)
                have hok : okT t n (d[n]?.getD 0) = true := okT_iff.2 ⟨hal, by omega, fun _ => by omega, fun _ => by omega⟩
                unfold Fgood
                rw [gs2, gs1]
                have hno : (preL l (t.l.toNat + 1) t.l.toNat (d[n]?.getD 0 + 1) = none ∨ preL l (t.r.toNat + 1) t.r.toNat (d[n]?.getD 0 + 1) = none) → ¬ gd l (n + 1) d := by
                  intro hh hg
                  obtain ⟨p, hp⟩ := Option.isSome_iff_exists.1 (gdN hg)
                  obtain ⟨t', p0, q0, hx', _, e0, e1, rfl⟩ := preL_some hp
                  obtain rfl : t = t' := by rw [hx] at hx'; exact Option.some.inj hx'
                  rw [if_neg k1, fu1] at e0
                  rw [if_neg k2, fu2] at e1
                  rcases hh with hh | hh
                  · rw [hh] at e0; cases e0
                  · rw [hh] at e1; cases e1
                cases hp0 : preL l (t.l.toNat + 1) t.l.toNat (d[n]?.getD 0 + 1) with
                | none => exact ⟨fun h => by simp at h, fun h => absurd h.1 (hno (.inl hp0))⟩
                | some p0 =>
                  cases hq0 : preL l (t.r.toNat + 1) t.r.toNat (d[n]?.getD 0 + 1) with
                  | none => exact ⟨fun h => by simp at h, fun h => absurd h.1 (hno (.inr hq0))⟩
                  | some q0 =>
                    have hp : preL l (n + 1) n (d[n]?.getD 0) = some (n :: (p0 ++ q0)) := preL_mk hx hok (by rw [if_neg k1, fu1, hp0]) (by rw [if_neg k2, fu2, hq0])
                    have hc : ∀ y, cnt l (n + 1) d y = cnt l n d y + (n :: (p0 ++ q0)).count y := fun y => by
                      simp only [cnt, if_neg h0]; unfold cc; rw [hp]
                    have hc0 : ∀ y, cc l t.l.toNat (d[n]?.getD 0 + 1) y = p0.count y := fun y => by unfold cc; rw [hp0]
                    have hc1 : ∀ y, cc l t.r.toNat (d[n]?.getD 0 + 1) y = q0.count y := fun y => by unfold cc; rw [hq0]
                    have hn0 : p0.count n = 0 := List.count_eq_zero.2 (fun hm => by have := preL_le _ _ _ _ hp0 n hm; omega)
                    have hn1 : q0.count n = 0 := List.count_eq_zero.2 (fun hm => by have := preL_le _ _ _ _ hq0 n hm; omega)
                    constructor
                    · rintro ⟨⟨⟨a, _⟩, _⟩, b⟩
                      refine ⟨⟨a, .inr (by rw [hp]; rfl)⟩, fun y => ?_⟩
                      have := b y
                      rw [cs2, hc0, hc1] at this
                      rw [hc]
                      by_cases hy : y = n
                      · subst hy; simp [hself0, hn0, hn1]
                      · simp only [List.count_cons, List.count_append, beq_iff_eq, Ne.symm hy, if_false]; omega
                    · rintro ⟨a, b⟩
                      refine ⟨⟨⟨a.1, rfl⟩, rfl⟩, fun y => ?_⟩
                      have := b y
                      rw [hc] at this
                      simp only [List.count_cons, List.count_append] at this
                      rw [cs2, hc0, hc1]
                      omega

theorem tree_may {l : List Term} {root : Int} : mayB l root = (treeS l root).isSome := by
  by_cases h : (l.length : Int) ≤ 160 ∧ 0 ≤ root ∧ root < l.length
  · rw [mayB_T h, treeS_T h, Bool.eq_iff_iff, may_pre h.2, toNat_succ h.2.1]
    rw [scan (root.toNat + 1) _ (by omega) (by simp) (Nn_start _ _)]
    have hz : ∀ i : Nat, (List.replicate l.length (0 : Int))[i]?.getD 0 = 0 := fun i => by rw [List.getElem?_replicate]; split <;> simp
    have hc0 : ∀ (n y : Nat), cnt l n (List.replicate l.length 0) y = 0 := by
      intro n y
      induction n with
      | zero => rfl
      | succ n ih => simp only [cnt, ih, hz, if_true]
    have hg0 : ∀ n : Nat, gd l n (List.replicate l.length 0) := by
      intro n
      induction n with
      | zero => trivial
      | succ n ih => exact ⟨ih, .inl (hz n)⟩
    unfold Fgood
    rw [gd_set (root.toNat + 1) _ (by omega) (by simp; omega) (hz _) (by omega)]
    constructor
    · rintro ⟨p, h1, h2⟩
      refine ⟨⟨hg0 _, by rw [h1]; rfl⟩, fun y => ?_⟩
      rw [cnt_set (root.toNat + 1) _ (by omega) (by simp; omega) (hz _) (by omega), hc0]
      unfold cc
      rw [h1]
      have := List.nodup_iff_count.1 h2 y
      simp only
      omega
    · rintro ⟨⟨_, h1⟩, h2⟩
      obtain ⟨p, hp⟩ := Option.isSome_iff_exists.1 h1
      refine ⟨p, hp, List.nodup_iff_count.2 (fun y => ?_)⟩
      have := h2 y
      rw [cnt_set (root.toNat + 1) _ (by omega) (by simp; omega) (hz _) (by omega), hc0] at this
      unfold cc at this
      rw [hp] at this
      simp only at this
      omega
  · have h1 : (160 : Int) < l.length ∨ root < 0 ∨ (l.length : Int) ≤ root := by omega
    rw [treeS_F h1]
    rcases h1 with h | h | h
    · rw [mayB_F1 (by simpa using h)]; rfl
    · rw [mayB_F2 (by simpa using h)]; rfl
    · rw [mayB_F3 h]; rfl
end Go.Sx

set_option linter.unusedVariables false
set_option linter.unusedSimpArgs false
namespace Go.Sx
open Go
theorem fin2 {k a b : Int} (h : operandsI k = 2) : kFin k a b = mixedI k a b := by
  have h0 : 0 ≤ operandsI k := by omega
  revert h
  rcases kind_cases h0 with rfl | rfl | rfl | rfl | rfl | rfl | rfl | rfl | rfl | rfl | rfl | rfl | rfl | rfl | rfl | rfl | rfl | rfl | rfl | rfl <;> intro h <;> first | (exact absurd h (by decide)) | skip
  all_goals
    simp only [kFin, kFin1, kFinB, kFin2, askW, mixedI, mx1, mx2, mx3, mx4, mx5, mx6]
    simp
  all_goals
    (repeat' split) <;> simp_all
theorem fin1 {k a : Int} (h : operandsI k = 1) : kFin k a 0 = mixedI k a 0 := by
  have h0 : 0 ≤ operandsI k := by omega
  revert h
  rcases kind_cases h0 with rfl | rfl | rfl | rfl | rfl | rfl | rfl | rfl | rfl | rfl | rfl | rfl | rfl | rfl | rfl | rfl | rfl | rfl | rfl | rfl <;> intro h <;> first | (exact absurd h (by decide)) | skip
  all_goals
    simp only [kFin, kFin1, kFinB, kFin2, askW, mixedI, mx1, mx2, mx3, mx4, mx5, mx6]
    simp
  all_goals
    (repeat' split) <;> simp_all
theorem askW2 {k : Int} (h : operandsI k = 2) : ¬ (askW k).1 = -1 ∧ ¬ (askW k).2.1 = -1 := by
  have h0 : 0 ≤ operandsI k := by omega
  revert h
  rcases kind_cases h0 with rfl | rfl | rfl | rfl | rfl | rfl | rfl | rfl | rfl | rfl | rfl | rfl | rfl | rfl | rfl | rfl | rfl | rfl | rfl | rfl <;> decide
theorem askW1 {k : Int} (h : operandsI k = 1) : ¬ (askW k).1 = -1 ∧ (askW k).2.1 = -1 := by
  have h0 : 0 ≤ operandsI k := by omega
  revert h
  rcases kind_cases h0 with rfl | rfl | rfl | rfl | rfl | rfl | rfl | rfl | rfl | rfl | rfl | rfl | rfl | rfl | rfl | rfl | rfl | rfl | rfl | rfl <;> decide
theorem askW0 {k : Int} (h : operandsI k = 0) : (askW k).1 = -1 ∧ (askW k).2.1 = -1 := by
  have h0 : 0 ≤ operandsI k := by omega
  revert h
  rcases kind_cases h0 with rfl | rfl | rfl | rfl | rfl | rfl | rfl | rfl | rfl | rfl | rfl | rfl | rfl | rfl | rfl | rfl | rfl | rfl | rfl | rfl <;> decide
theorem fin0k {t : Term} {env : List Typing} (h : operandsI t.kind = 0) (hv : ¬ t.kind = 0) : kFin t.kind 0 0 = leafK t env := by
  have h0 : 0 ≤ operandsI t.kind := by omega
  unfold leafK
  generalize t.kind = k at *
  revert h hv
  rcases kind_cases h0 with rfl | rfl | rfl | rfl | rfl | rfl | rfl | rfl | rfl | rfl | rfl | rfl | rfl | rfl | rfl | rfl | rfl | rfl | rfl | rfl <;> intro h hv <;> first | (exact absurd h (by decide)) | (exact absurd rfl hv) | (simp; decide)
theorem kind2_ne {k : Int} (h : ¬ operandsI k = 0) : ¬ k = 0 := fun e => h (by subst e; decide)

/-- the two agree on every valid tree -/
theorem kOf_kRef {l : List Term} {env : List Typing} : ∀ (f : Nat) (at_ : Int), Tr l f at_ → kOf l env f at_ = kRef l env f at_ := by
  intro f
  induction f with
  | zero => intro at_ h; exact h.elim
  | succ f ih =>
    intro at_ h
    obtain ⟨h0, t, hx, hop, hfd, hTl, _, hTr, _⟩ := h
    have hle := operandsI_le t.kind
    by_cases k0 : operandsI t.kind = 0
    · rw [kRef_0 hx k0]
      by_cases hv : t.kind = 0
      · rw [kOf_var hx hv]; unfold leafK; rw [if_pos hv]
      · obtain ⟨a0, b0⟩ := askW0 k0
        have hA : kOp (askW t.kind).1 (kOf l env f t.l) = (0, 0) := by unfold kOp; rw [if_pos a0]
        have hB : kOp (askW t.kind).2.1 (kOf l env f t.r) = (0, 0) := by unfold kOp; rw [if_pos b0]
        rw [kOf_f hx hv (by rw [hA]) (by rw [hB]), hA, hB]
        exact fin0k k0 hv
    · have hv := kind2_ne k0
      have il := ih t.l (hTl (by omega))
      by_cases k2 : operandsI t.kind = 2
      · have ir := ih t.r (hTr (by omega))
        obtain ⟨a0, b0⟩ := askW2 k2
        have hA : kOp (askW t.kind).1 (kOf l env f t.l) = kRef l env f t.l := by unfold kOp; rw [if_neg a0, il]
        have hB : kOp (askW t.kind).2.1 (kOf l env f t.r) = kRef l env f t.r := by unfold kOp; rw [if_neg b0, ir]
        by_cases e1 : (kRef l env f t.l).2 = 0
        · by_cases e2 : (kRef l env f t.r).2 = 0
          · rw [kRef_2 hx k0 e1 k2 e2, kOf_f hx hv (by rw [hA, e1]) (by rw [hB, e2]), hA, hB, fin2 k2]
          · rw [kRef_r hx k0 e1 k2 e2, kOf_b hx hv (by rw [hA, e1]) (by rw [hB]; exact e2), hB]
        · rw [kRef_l hx k0 e1, kOf_a hx hv (by rw [hA]; exact e1), hA]
      · have k1 : operandsI t.kind = 1 := by omega
        obtain ⟨a0, b0⟩ := askW1 k1
        have hA : kOp (askW t.kind).1 (kOf l env f t.l) = kRef l env f t.l := by unfold kOp; rw [if_neg a0, il]
        have hB : kOp (askW t.kind).2.1 (kOf l env f t.r) = (0, 0) := by unfold kOp; rw [if_pos b0]
        by_cases e1 : (kRef l env f t.l).2 = 0
        · rw [kRef_1 hx k0 e1 k2, kOf_f hx hv (by rw [hA, e1]) (by rw [hB]), hA, hB, fin1 k1]
        · rw [kRef_l hx k0 e1, kOf_a hx hv (by rw [hA]; exact e1), hA]

def kindRef (l : List Term) (root : Int) (env : List Typing) : Int × Int := if mayB l root then kRef l env (root.toNat + 1) root else (0, 500)
theorem of_kind {l : List Term} {root : Int} {env : List Typing} : ofS l root env = kindRef l root env := by
  unfold ofS kindRef
  split
  · rename_i h; exact kOf_kRef _ _ (mayB_Tr h)
  · rfl
end Go.Sx

set_option linter.unusedVariables false
namespace Go.Sx
open Go
/-! ## the ends of sessions in terms -/
theorem ends_c (a : Int) : ofS [⟨0, [99], 0, [], -1, -1⟩] 0 [⟨[99], 5, a⟩] = (5, 0) := rfl
theorem ends_cases {k : Int} (h : 6 ≤ k ∧ k ≤ 19) : k = 6 ∨ k = 7 ∨ k = 8 ∨ k = 9 ∨ k = 10 ∨ k = 11 ∨ k = 12 ∨ k = 13 ∨ k = 14 ∨ k = 15 ∨ k = 16 ∨ k = 17 ∨ k = 18 ∨ k = 19 := by omega
theorem ends_l {k : Int} (n a : Int) (h : 6 ≤ k ∧ k ≤ 19) (h1 : ¬ k = 15) (h2 : ¬ k = 16) : ofS [⟨0, [99], 0, [], -1, -1⟩, ⟨1, [], n, [], -1, -1⟩, ⟨k, [], 0, [], 0, 1⟩] 2 [⟨[99], 5, a⟩] = (0, 502) := by
  rcases ends_cases h with rfl | rfl | rfl | rfl | rfl | rfl | rfl | rfl | rfl | rfl | rfl | rfl | rfl | rfl <;> first | rfl | omega
theorem ends_r {k : Int} (n a : Int) (h : 6 ≤ k ∧ k ≤ 19) (h1 : ¬ k = 15) (h2 : ¬ k = 16) : ofS [⟨1, [], n, [], -1, -1⟩, ⟨0, [99], 0, [], -1, -1⟩, ⟨k, [], 0, [], 0, 1⟩] 2 [⟨[99], 5, a⟩] = (0, 502) := by
  rcases ends_cases h with rfl | rfl | rfl | rfl | rfl | rfl | rfl | rfl | rfl | rfl | rfl | rfl | rfl | rfl <;> first | rfl | omega
theorem ends_1 {k : Int} (a : Int) (h : k = 15 ∨ k = 16) : ofS [⟨0, [99], 0, [], -1, -1⟩, ⟨k, [], 0, [], 0, -1⟩] 1 [⟨[99], 5, a⟩] = (0, 502) := by
  rcases h with rfl | rfl <;> rfl
end Go.Sx

set_option linter.unusedVariables false
namespace Go.Sx
open Go
/-! ## values, and rows of numbers and names -/
def I64.cells (n : Int) : List Value := [.int .i64 n]
def Str.cells (s : Str) : List Value := [gs s]
structure Val where
  k : Int
  n : Int
  s : Str
  l : List Int
/-- a value's cells; lv: its list -/
def Val.cells (x : Val) (lv : Value) : List Value := [.int .i64 x.k, .int .i64 x.n, gs x.s, lv]
structure Bind where
  name : Str
  v : Val
  lv : Value
def Bind.cells (b : Bind) : List Value := [gs b.name, .int .i64 b.v.k, .int .i64 b.v.n, gs b.v.s, b.lv]
instance : Cells 1 I64.cells := ⟨fun _ => rfl, by decide, fun _ => rfl⟩
instance : Cells 1 Str.cells := ⟨fun _ => rfl, by decide, fun _ => rfl⟩
instance : Cells 3 Typing.cells := ⟨fun _ => rfl, by decide, fun _ => rfl⟩
instance : Cells 6 Term.cells := ⟨fun _ => rfl, by decide, fun _ => rfl⟩
/-- the list of a value may be read -/
def RdV (H : Hp) (lv : Value) (x : Val) : Prop := RdSl H 1 I64.cells lv x.l
def EnvOk (H : Hp) (env : List Bind) : Prop := ∀ b ∈ env, RdV H b.lv b.v
theorem RdV.le {H H' : Hp} {lv : Value} {x : Val} (h : RdV H lv x) (hl : H.le H') : RdV H' lv x := RdSl.le h hl
theorem EnvOk.le {H H' : Hp} {env : List Bind} (h : EnvOk H env) (hl : H.le H') : EnvOk H' env := fun b hb => (h b hb).le hl
theorem EnvOk.nil {H : Hp} : EnvOk H [] := fun b hb => by cases hb
theorem lens_nil : ∀ b ∈ ([] : List Bind), b.v.l.length ≤ 100000 := fun b hb => by cases hb
theorem binds_nil {H : Hp} : RdSl H 5 Bind.cells (.slice none 0 0) [] := RdSl.nil
theorem take_snoc {α : Type} {l : List α} {k : Int} {x : α} (hk : 0 ≤ k) (hx : l[k.toNat]? = some x) : l.take (k + 1).toNat = l.take k.toNat ++ [x] := by
  rw [show (k + 1).toNat = k.toNat + 1 by omega, List.take_add_one, hx]; rfl
theorem take_all {α : Type} {l : List α} {k : Int} (h : ¬ k < l.length) (h2 : 0 ≤ k) : l.take k.toNat = l := List.take_of_length_le (by omega)
/-- the end of a row -/
theorem map_take_snoc {α β : Type} {f : α → β} {l : List α} {k : Int} {x : α} (hk : 0 ≤ k) (hx : l[k.toNat]? = some x) : (l.take (k + 1).toNat).map f = (l.take k.toNat).map f ++ [f x] := by
  rw [take_snoc hk hx]; simp
theorem RdSl.ofNone {α : Type} {H : Hp} {enc : α → List Value} {k : Nat} {l : List α} {a : Option Addr} {n c : Nat} (h : RdSl H k enc (.slice a n c) l) (ha : a.isNone = true) : RdSl H k enc (.slice none 0 0) l := by
  cases a with
  | some a => cases ha
  | none =>
    by_cases hl : l = []
    · subst hl; exact RdSl.nil
    · obtain ⟨_, h⟩ := h.addr hl; cases h
theorem RdSl.ownNone {α : Type} {H : Hp} {enc : α → List Value} {k : Nat} {l : List α} {a : Option Addr} {n c : Nat} (h : RdSl H k enc (.slice a n c) l) (ha : a.isNone = true) : OwnSl k enc (.slice none 0 0) l [] := by
  cases a with
  | some a => cases ha
  | none =>
    by_cases hl : l = []
    · subst hl; exact OwnSl.nil
    · obtain ⟨_, h⟩ := h.addr hl; cases h
def typingOf (b : Bind) : Typing := ⟨b.name, b.v.k, 0⟩
end Go.Sx

set_option linter.unusedVariables false
namespace Go.Sx
open Go
/-! ## what terms come to -/
abbrev w64 (a : Int) : Int := IntKind.i64.wrap a
def v0 : Val := ⟨0, 0, [], []⟩
def truthV (b : Bool) : Val := ⟨2, if b then 1 else 0, [], []⟩
/-- data.May -/
def mayV (x : Val) : Bool :=
  if x.k = 0 then decide (x.n = 0) && (decide (x.s = []) && decide ((x.l.length : Int) = 0))
  else if x.k = 1 then decide (x.s = []) && decide ((x.l.length : Int) = 0)
  else if x.k = 2 then (decide (x.n = 0) || decide (x.n = 1)) && (decide (x.s = []) && decide ((x.l.length : Int) = 0))
  else if x.k = 3 then decide ((x.s.length : Int) ≤ 24) && (decide (x.n = 0) && decide ((x.l.length : Int) = 0))
  else if x.k = 4 then decide ((x.l.length : Int) ≤ 16) && (decide (x.n = 0) && decide (x.s = []))
  else if x.k = 5 then !decide (x.s = []) && (decide (0 ≤ x.n) && (decide (x.n < 5) && decide ((x.l.length : Int) = 0)))
  else false
/-- data.Same -/
def sameV (a b : Val) : Bool := decide (a.k = b.k) && (decide (a.n = b.n) && (decide (a.s = b.s) && decide (a.l = b.l)))
theorem len0 {α : Type} {l : List α} : ((l.length : Int) = 0) = (l = []) := by cases l <;> simp; omega
theorem len0' {α : Type} {l : List α} : decide ((l.length : Int) = 0) = decide (l = []) := by cases l <;> simp; omega
theorem same_end {a b : List Int} {k : Int} (h : a.take k.toNat = b.take k.toNat) (hl : (a.length : Int) = b.length) (hk : ¬ k < a.length) (h0 : 0 ≤ k) : a = b := by
  rw [List.take_of_length_le (by omega), List.take_of_length_le (by omega)] at h; exact h
theorem same_ne {a b : List Int} {k : Int} {x y : Int} (hx : a[k.toNat]? = some x) (hy : b[k.toNat]? = some y) (h : ¬ x = y) : ¬ a = b := by
  rintro rfl
  rw [hx] at hy; exact h (Option.some.inj hy)

def numV (kind x y : Int) : Val × Int :=
  if kind = 6 then (⟨1, w64 (x + y), [], []⟩, 0)
  else if kind = 7 then (⟨1, w64 (x - y), [], []⟩, 0)
  else if kind = 8 then (⟨1, w64 (x * y), [], []⟩, 0)
  else if kind = 12 then (truthV (decide (x < y)), 0)
  else if kind = 9 ∨ kind = 10 then
    if y = 0 then (v0, 403) else if kind = 9 then (⟨1, w64 (x.tdiv y), [], []⟩, 0) else (⟨1, x.tmod y, [], []⟩, 0)
  else (⟨1, 0, [], []⟩, 0)

def wrongV : Val × Int := (v0, 402)
def pushV (a b : Val) : Val × Int := if 16 ≤ (a.l.length : Int) then (v0, 405) else (⟨4, 0, [], a.l ++ [b.n]⟩, 0)
def atV (a b : Val) : Val × Int := if b.n < 0 ∨ (a.l.length : Int) ≤ b.n then (v0, 404) else (⟨1, a.l[b.n.toNat]?.getD 0, [], []⟩, 0)
def joinV (a b : Val) : Val × Int := if 24 < (a.s.length : Int) + b.s.length then (v0, 405) else (⟨3, 0, a.s ++ b.s, []⟩, 0)
def isNumOp (k : Int) : Bool := decide (k = 6) || (decide (k = 7) || (decide (k = 8) || (decide (k = 9) || (decide (k = 10) || decide (k = 12)))))
def applyV (kind : Int) (a b : Val) : Val × Int :=
  if isNumOp kind then if ¬ a.k = 1 ∨ ¬ b.k = 1 then wrongV else numV kind a.n b.n
  else if kind = 11 then if ¬ a.k = b.k ∨ a.k = 5 then wrongV else (truthV (sameV a b), 0)
  else if kind = 13 ∨ kind = 14 then
    if ¬ a.k = 2 ∨ ¬ b.k = 2 then wrongV
    else if kind = 13 then (truthV (decide (a.n = 1) && decide (b.n = 1)), 0) else (truthV (decide (a.n = 1) || decide (b.n = 1)), 0)
  else if kind = 15 then if ¬ a.k = 2 then wrongV else (truthV (decide (a.n = 0)), 0)
  else if kind = 16 then if a.k = 3 then (⟨1, a.s.length, [], []⟩, 0) else if a.k = 4 then (⟨1, a.l.length, [], []⟩, 0) else wrongV
  else if kind = 17 ∨ kind = 18 then
    if ¬ a.k = 4 ∨ ¬ b.k = 1 then wrongV else if kind = 17 then atV a b else pushV a b
  else if ¬ a.k = 3 ∨ ¬ b.k = 3 then wrongV else joinV a b

def holdV (env : List Bind) (name : Str) : Val × Int := match env with
  | [] => (v0, 401)
  | b :: r => if b.name = name then (if mayV b.v then (b.v, 0) else (v0, 402)) else holdV r name
theorem holdV_skip {env : List Bind} {name : Str} {k : Int} {x : Bind} (hk : 0 ≤ k) (h : holdV env name = holdV (env.drop k.toNat) name) (hx : env[k.toNat]? = some x) (hne : ¬ x.name = name) : holdV env name = holdV (env.drop (k + 1).toNat) name := by
  rw [h, drop_at hk hx]; simp [holdV, hne]
theorem holdV_at {env : List Bind} {name : Str} {k : Int} {x : Bind} (hk : 0 ≤ k) (h : holdV env name = holdV (env.drop k.toNat) name) (hx : env[k.toNat]? = some x) (he : x.name = name) : holdV env name = if mayV x.v then (x.v, 0) else (v0, 402) := by
  rw [h, drop_at hk hx]; simp [holdV, he]
theorem holdV_end {env : List Bind} {name : Str} {k : Int} (h : holdV env name = holdV (env.drop k.toNat) name) (hk : ¬ k < env.length) : holdV env name = (v0, 401) := by
  rw [h, drop_end hk]; simp [holdV]

def leafV (t : Term) (env : List Bind) : Val × Int :=
  if t.kind = 1 then (⟨1, t.n, [], []⟩, 0)
  else if t.kind = 2 then (⟨2, t.n, [], []⟩, 0)
  else if t.kind = 3 then (⟨3, 0, t.text, []⟩, 0)
  else if t.kind = 4 then (⟨4, 0, [], []⟩, 0)
  else if t.kind = 5 then (v0, 0)
  else holdV env t.name

theorem leafV_var {t : Term} {env : List Bind} (h1 : ¬ t.kind = 1) (h2 : ¬ t.kind = 2) (h3 : ¬ t.kind = 3) (h4 : ¬ t.kind = 4) (h5 : ¬ t.kind = 5) : leafV t env = holdV env t.name := by
  unfold leafV; simp only [h1, h2, h3, h4, h5, if_false]

def evalW (l : List Term) (env : List Bind) : Nat → Int → Val × Int
  | 0, _ => (v0, 0)
  | f + 1, at_ => match l[at_.toNat]? with
    | none => (v0, 0)
    | some t => if operandsI t.kind = 0 then leafV t env else
      if ¬ (evalW l env f t.l).2 = 0 then (v0, (evalW l env f t.l).2) else
      if operandsI t.kind = 2 then
        if ¬ (evalW l env f t.r).2 = 0 then (v0, (evalW l env f t.r).2) else applyV t.kind (evalW l env f t.l).1 (evalW l env f t.r).1
      else applyV t.kind (evalW l env f t.l).1 v0
theorem evalW_leaf {l : List Term} {env : List Bind} {f : Nat} {at_ : Int} {t : Term} (hx : l[at_.toNat]? = some t) (h : operandsI t.kind = 0) : evalW l env (f + 1) at_ = leafV t env := by
  simp only [evalW, hx]; rw [if_pos h]
theorem evalW_a {l : List Term} {env : List Bind} {f : Nat} {at_ : Int} {t : Term} (hx : l[at_.toNat]? = some t) (h : ¬ operandsI t.kind = 0) (ha : ¬ (evalW l env f t.l).2 = 0) : evalW l env (f + 1) at_ = (v0, (evalW l env f t.l).2) := by
  simp only [evalW, hx]; rw [if_neg h, if_pos ha]
theorem evalW_1 {l : List Term} {env : List Bind} {f : Nat} {at_ : Int} {t : Term} (hx : l[at_.toNat]? = some t) (h : ¬ operandsI t.kind = 0) (ha : (evalW l env f t.l).2 = 0) (h2 : ¬ operandsI t.kind = 2) : evalW l env (f + 1) at_ = applyV t.kind (evalW l env f t.l).1 v0 := by
  simp only [evalW, hx]; rw [if_neg h, if_neg (by simpa using ha), if_neg h2]
theorem evalW_b {l : List Term} {env : List Bind} {f : Nat} {at_ : Int} {t : Term} (hx : l[at_.toNat]? = some t) (h : ¬ operandsI t.kind = 0) (ha : (evalW l env f t.l).2 = 0) (h2 : operandsI t.kind = 2) (hb : ¬ (evalW l env f t.r).2 = 0) : evalW l env (f + 1) at_ = (v0, (evalW l env f t.r).2) := by
  simp only [evalW, hx]; rw [if_neg h, if_neg (by simpa using ha), if_pos h2, if_pos hb]
theorem evalW_2 {l : List Term} {env : List Bind} {f : Nat} {at_ : Int} {t : Term} (hx : l[at_.toNat]? = some t) (h : ¬ operandsI t.kind = 0) (ha : (evalW l env f t.l).2 = 0) (h2 : operandsI t.kind = 2) (hb : (evalW l env f t.r).2 = 0) : evalW l env (f + 1) at_ = applyV t.kind (evalW l env f t.l).1 (evalW l env f t.r).1 := by
  simp only [evalW, hx]; rw [if_neg h, if_neg (by simpa using ha), if_pos h2, if_neg (by simpa using hb)]
/-- term.Eval -/
def evalS (l : List Term) (root : Int) (env : List Bind) : Val × Int := if mayB l root then evalW l env (root.toNat + 1) root else (v0, 400)

/-- a text of a bounded length -/
def short (x : Val) : Prop := x.k = 3 → x.s.length ≤ 1000000
theorem v0_short : short v0 := by simp [short, v0]
theorem truthV_short (b : Bool) : short (truthV b) := by simp [short, truthV]
theorem applyV_short (k : Int) (a b : Val) : short (applyV k a b).1 := by
  unfold applyV numV atV pushV joinV wrongV
  (repeat' split) <;> simp_all [short, truthV, v0] <;> omega
theorem mayV_short {x : Val} (h : mayV x = true) : short x := by
  intro hk
  unfold mayV at h
  simp [hk] at h
  omega
theorem holdV_short (env : List Bind) (name : Str) : short (holdV env name).1 := by
  induction env with
  | nil => simp [holdV, short, v0]
  | cons b r ih =>
    unfold holdV
    split
    · split
      · rename_i h; exact mayV_short h
      · simp [short, v0]
    · exact ih
theorem leafV_short {t : Term} (env : List Bind) (h : fieldsB t = true) : short (leafV t env).1 := by
  unfold leafV
  split
  · simp [short]
  split
  · simp [short]
  split
  · rename_i h3
    intro _
    unfold fieldsB at h
    simp [h3] at h
    simp; omega
  split
  · simp [short]
  split
  · exact v0_short
  · exact holdV_short env t.name
theorem evalW_short {l : List Term} {env : List Bind} : ∀ (f : Nat) (at_ : Int), Tr l f at_ → short (evalW l env f at_).1
  | 0, _, h => h.elim
  | f + 1, at_, h => by
    obtain ⟨_, t, hx, _, hf, _⟩ := h
    simp only [evalW, hx]
    split
    · exact leafV_short env hf
    split
    · exact v0_short
    split
    · split
      · exact v0_short
      · exact applyV_short _ _ _
    · exact applyV_short _ _ _
/-- a value and an error, as they are handed back -/
def RV (r : Val × Int) (v : Value) (H : Hp) : Prop := ∃ lv, v = .tuple #[.agg (r.1.cells lv).toArray, .int .i64 r.2] ∧ RdV H lv r.1
theorem RV.of {r q : Val × Int} {lv : Value} {H : Hp} (h : q = r) (hr : RdV H lv q.1) : RV r (.tuple #[.agg (q.1.cells lv).toArray, .int .i64 q.2]) H := ⟨lv, by rw [h], h ▸ hr⟩
theorem RV.eq {r q : Val × Int} {v : Value} {H : Hp} (h : RV q v H) (e : q = r) : RV r v H := e ▸ h
theorem RV.le {r : Val × Int} {v : Value} {H H' : Hp} (h : RV r v H) (hl : H.le H') : RV r v H' := by
  obtain ⟨lv, h1, h2⟩ := h; exact ⟨lv, h1, h2.le hl⟩
theorem RdV.nil {H : Hp} {k n : Int} {s : Str} : RdV H (.slice none 0 0) ⟨k, n, s, []⟩ := RdSl.nil
end Go.Sx

set_option linter.unusedVariables false
namespace Go.Sx
open Go
/-! ## a term with a kind comes to a value of that kind -/
def Snd (a : Int × Int) (b : Val × Int) : Prop := (a.2 = 0 ∧ ((b.2 = 0 ∧ b.1.k = a.1 ∧ mayV b.1 = true) ∨ b.2 = 403 ∨ b.2 = 404 ∨ b.2 = 405)) ∨ ((a.2 = 501 ∨ a.2 = 502) ∧ ¬ b.2 = 0)

theorem held_snd {env : List Bind} (name : Str) (hall : ∀ b ∈ env, mayV b.v = true) : Snd (heldS (env.map typingOf) name) (holdV env name) := by
  induction env with
  | nil => exact .inr ⟨.inl rfl, by simp [holdV]⟩
  | cons b r ih =>
    have hm := hall b (by simp)
    simp only [List.map_cons, heldS, holdV, typingOf]
    by_cases hn : b.name = name
    · rw [if_pos hn, if_pos hn, if_pos hm]
      have hk : ¬ (b.v.k < 0 ∨ 5 < b.v.k) := by
        intro h
        unfold mayV at hm
        rw [if_neg (by omega), if_neg (by omega), if_neg (by omega), if_neg (by omega), if_neg (by omega), if_neg (by omega)] at hm
        cases hm
      rw [if_neg hk]
      exact .inl ⟨rfl, .inl ⟨rfl, rfl, hm⟩⟩
    · rw [if_neg hn, if_neg hn]
      exact ih (fun c hc => hall c (List.mem_cons_of_mem _ hc))

/-- .. of operands that have values: the one error that tells of kinds -/
def SndK (a : Int × Int) (b : Val × Int) : Prop := (a.2 = 0 ∧ ((b.2 = 0 ∧ b.1.k = a.1 ∧ mayV b.1 = true) ∨ b.2 = 403 ∨ b.2 = 404 ∨ b.2 = 405)) ∨ (a.2 = 502 ∧ b.2 = 402)
theorem SndK.snd {a : Int × Int} {b : Val × Int} (h : SndK a b) : Snd a b := h.imp (fun h => h) (fun h => ⟨.inr h.1, by rw [h.2]; decide⟩)
theorem may_int (n : Int) : mayV ⟨1, n, [], []⟩ = true := by simp [mayV]
theorem may_truth (b : Bool) : mayV (truthV b) = true := by cases b <;> simp [mayV, truthV]
theorem sndK_ok {k : Int} {v : Val} (hk : v.k = k) (hm : mayV v = true) : SndK (k, 0) (v, 0) := .inl ⟨rfl, .inl ⟨rfl, hk, hm⟩⟩
theorem sndK_wrong : SndK (0, 502) wrongV := .inr ⟨rfl, rfl⟩
theorem numV_sndK {k x y : Int} (h : isNumOp k = true) : SndK ((if k = 12 then 2 else 1), 0) (numV k x y) := by
  have h6 : k = 6 ∨ k = 7 ∨ k = 8 ∨ k = 9 ∨ k = 10 ∨ k = 12 := by unfold isNumOp at h; simpa using h
  rcases h6 with rfl | rfl | rfl | rfl | rfl | rfl
  · show SndK (1, 0) (⟨1, w64 (x + y), [], []⟩, 0); exact sndK_ok rfl (may_int _)
  · show SndK (1, 0) (⟨1, w64 (x - y), [], []⟩, 0); exact sndK_ok rfl (may_int _)
  · show SndK (1, 0) (⟨1, w64 (x * y), [], []⟩, 0); exact sndK_ok rfl (may_int _)
  · show SndK (1, 0) (if y = 0 then (v0, 403) else (⟨1, w64 (x.tdiv y), [], []⟩, 0))
    split
    · exact .inl ⟨rfl, .inr (.inl rfl)⟩
    · exact sndK_ok rfl (may_int _)
  · show SndK (1, 0) (if y = 0 then (v0, 403) else (⟨1, x.tmod y, [], []⟩, 0))
    split
    · exact .inl ⟨rfl, .inr (.inl rfl)⟩
    · exact sndK_ok rfl (may_int _)
  · show SndK (2, 0) (truthV (decide (x < y)), 0); exact sndK_ok rfl (may_truth _)
theorem kFin_sndK {k : Int} {a b : Val} (hk : 6 ≤ k ∧ k ≤ 19) (ha : mayV a = true) (hb : mayV b = true) : SndK (kFin k a.k b.k) (applyV k a b) := by
  have h6 : k = 6 ∨ k = 7 ∨ k = 8 ∨ k = 9 ∨ k = 10 ∨ k = 12 ∨ k = 11 ∨ k = 13 ∨ k = 14 ∨ k = 15 ∨ k = 16 ∨ k = 17 ∨ k = 18 ∨ k = 19 := by omega
  have num : ∀ k, isNumOp k = true → kFin k a.k b.k = (if a.k = 1 then if b.k = 1 then ((if k = 12 then 2 else 1), 0) else (0, 502) else (0, 502)) → SndK (kFin k a.k b.k) (applyV k a b) := by
    intro k hk e
    rw [e]; unfold applyV; rw [if_pos hk]
    by_cases h1 : a.k = 1
    · by_cases h2 : b.k = 1
      · rw [if_pos h1, if_pos h2, if_neg (show ¬ (¬ a.k = 1 ∨ ¬ b.k = 1) by simp [h1, h2])]; exact numV_sndK hk
      · rw [if_pos h1, if_neg h2, if_pos (show ¬ a.k = 1 ∨ ¬ b.k = 1 from .inr h2)]; exact sndK_wrong
    · rw [if_neg h1, if_pos (show ¬ a.k = 1 ∨ ¬ b.k = 1 from .inl h1)]; exact sndK_wrong
  have hn : ∀ k, isNumOp k = true → askW k = (1, 1, (if k = 12 then 2 else 1)) → ¬ k = 11 → ¬ k = 16 → kFin k a.k b.k = (if a.k = 1 then if b.k = 1 then ((if k = 12 then 2 else 1), 0) else (0, 502) else (0, 502)) := by
    intro k _ e h11 h16
    unfold kFin kFin1 kFinB kFin2
    rw [e]
    by_cases h1 : a.k = 1 <;> by_cases h2 : b.k = 1 <;> simp [h1, h2, h11, h16]
  rcases h6 with rfl | rfl | rfl | rfl | rfl | rfl | rfl | rfl | rfl | rfl | rfl | rfl | rfl | rfl
  · exact num _ rfl (hn _ rfl rfl (by decide) (by decide))
  · exact num _ rfl (hn _ rfl rfl (by decide) (by decide))
  · exact num _ rfl (hn _ rfl rfl (by decide) (by decide))
  · exact num _ rfl (hn _ rfl rfl (by decide) (by decide))
  · exact num _ rfl (hn _ rfl rfl (by decide) (by decide))
  · exact num _ rfl (hn _ rfl rfl (by decide) (by decide))
  · -- equality
    have e : kFin 11 a.k b.k = if ¬ a.k = b.k ∨ a.k = 5 then (0, 502) else (2, 0) := by
      unfold kFin kFin1 kFinB kFin2
      rw [show askW 11 = (-2, -2, 2) from rfl]
      by_cases h1 : a.k = b.k <;> by_cases h2 : b.k = 5 <;> simp [h1, h2]
    have e2 : applyV 11 a b = if ¬ a.k = b.k ∨ a.k = 5 then wrongV else (truthV (sameV a b), 0) := rfl
    rw [e, e2]
    split
    · exact sndK_wrong
    · exact sndK_ok rfl (may_truth _)
  · have e : kFin 13 a.k b.k = if ¬ a.k = 2 ∨ ¬ b.k = 2 then (0, 502) else (2, 0) := by
      unfold kFin kFin1 kFinB kFin2
      rw [show askW 13 = (2, 2, 2) from rfl]
      by_cases h1 : a.k = 2 <;> by_cases h2 : b.k = 2 <;> simp [h1, h2]
    have e2 : applyV 13 a b = if ¬ a.k = 2 ∨ ¬ b.k = 2 then wrongV else (truthV (decide (a.n = 1) && decide (b.n = 1)), 0) := rfl
    rw [e, e2]
    split
    · exact sndK_wrong
    · exact sndK_ok rfl (may_truth _)
  · have e : kFin 14 a.k b.k = if ¬ a.k = 2 ∨ ¬ b.k = 2 then (0, 502) else (2, 0) := by
      unfold kFin kFin1 kFinB kFin2
      rw [show askW 14 = (2, 2, 2) from rfl]
      by_cases h1 : a.k = 2 <;> by_cases h2 : b.k = 2 <;> simp [h1, h2]
    have e2 : applyV 14 a b = if ¬ a.k = 2 ∨ ¬ b.k = 2 then wrongV else (truthV (decide (a.n = 1) || decide (b.n = 1)), 0) := rfl
    rw [e, e2]
    split
    · exact sndK_wrong
    · exact sndK_ok rfl (may_truth _)
  · have e : kFin 15 a.k b.k = if ¬ a.k = 2 then (0, 502) else (2, 0) := by
      unfold kFin kFin1 kFinB kFin2
      rw [show askW 15 = (2, -1, 2) from rfl]
      by_cases h1 : a.k = 2 <;> simp [h1]
    have e2 : applyV 15 a b = if ¬ a.k = 2 then wrongV else (truthV (decide (a.n = 0)), 0) := rfl
    rw [e, e2]
    split
    · exact sndK_wrong
    · exact sndK_ok rfl (may_truth _)
  · have e : kFin 16 a.k b.k = if a.k = 3 ∨ a.k = 4 then (1, 0) else (0, 502) := by
      unfold kFin kFin1 kFinB kFin2
      rw [show askW 16 = (-2, -1, 1) from rfl]
      by_cases h1 : a.k = 3 <;> by_cases h2 : a.k = 4 <;> simp [h1, h2]
    have e2 : applyV 16 a b = if a.k = 3 then (⟨1, a.s.length, [], []⟩, 0) else if a.k = 4 then (⟨1, a.l.length, [], []⟩, 0) else wrongV := rfl
    rw [e, e2]
    by_cases h1 : a.k = 3
    · rw [if_pos (.inl h1), if_pos h1]; exact sndK_ok rfl (may_int _)
    · by_cases h2 : a.k = 4
      · rw [if_pos (.inr h2), if_neg h1, if_pos h2]; exact sndK_ok rfl (may_int _)
      · rw [if_neg (by simp [h1, h2]), if_neg h1, if_neg h2]; exact sndK_wrong
  · have e : kFin 17 a.k b.k = if ¬ a.k = 4 ∨ ¬ b.k = 1 then (0, 502) else (1, 0) := by
      unfold kFin kFin1 kFinB kFin2
      rw [show askW 17 = (4, 1, 1) from rfl]
      by_cases h1 : a.k = 4 <;> by_cases h2 : b.k = 1 <;> simp [h1, h2]
    have e2 : applyV 17 a b = if ¬ a.k = 4 ∨ ¬ b.k = 1 then wrongV else atV a b := rfl
    rw [e, e2]
    split
    · exact sndK_wrong
    · unfold atV
      split
      · exact .inl ⟨rfl, .inr (.inr (.inl rfl))⟩
      · exact sndK_ok rfl (may_int _)
  · have e : kFin 18 a.k b.k = if ¬ a.k = 4 ∨ ¬ b.k = 1 then (0, 502) else (4, 0) := by
      unfold kFin kFin1 kFinB kFin2
      rw [show askW 18 = (4, 1, 4) from rfl]
      by_cases h1 : a.k = 4 <;> by_cases h2 : b.k = 1 <;> simp [h1, h2]
    have e2 : applyV 18 a b = if ¬ a.k = 4 ∨ ¬ b.k = 1 then wrongV else pushV a b := rfl
    rw [e, e2]
    split
    · exact sndK_wrong
    · unfold pushV
      split
      · exact .inl ⟨rfl, .inr (.inr (.inr rfl))⟩
      · refine sndK_ok rfl ?_
        simp [mayV]; omega
  · have e : kFin 19 a.k b.k = if ¬ a.k = 3 ∨ ¬ b.k = 3 then (0, 502) else (3, 0) := by
      unfold kFin kFin1 kFinB kFin2
      rw [show askW 19 = (3, 3, 3) from rfl]
      by_cases h1 : a.k = 3 <;> by_cases h2 : b.k = 3 <;> simp [h1, h2]
    have e2 : applyV 19 a b = if ¬ a.k = 3 ∨ ¬ b.k = 3 then wrongV else joinV a b := rfl
    rw [e, e2]
    split
    · exact sndK_wrong
    · unfold joinV
      split
      · exact .inl ⟨rfl, .inr (.inr (.inr rfl))⟩
      · refine sndK_ok rfl ?_
        simp [mayV]; omega

theorem kFin_snd {k : Int} {a b : Val} (hk : 6 ≤ k ∧ k ≤ 19) (ha : mayV a = true) (hb : mayV b = true) : Snd (kFin k a.k b.k) (applyV k a b) := (kFin_sndK hk ha hb).snd
theorem snd_ok {k : Int} {v : Val} (hk : v.k = k) (hm : mayV v = true) : Snd (k, 0) (v, 0) := .inl ⟨rfl, .inl ⟨rfl, hk, hm⟩⟩
theorem mayV_len {x : Val} (h : mayV x = true) : x.l.length ≤ 100000 := by
  unfold mayV at h
  (repeat' split at h) <;> simp_all <;> omega
theorem may_v0 : mayV v0 = true := by decide

theorem sound_W {l : List Term} {env : List Bind} (hall : ∀ b ∈ env, mayV b.v = true) : ∀ (f : Nat) (at_ : Int), Tr l f at_ → Snd (kOf l (env.map typingOf) f at_) (evalW l env f at_)
  | 0, _, h => h.elim
  | f + 1, at_, h => by
    obtain ⟨_, t, hx, hop, hf, hl, hl', hr, hr'⟩ := h
    by_cases h0 : operandsI t.kind = 0
    · rw [evalW_leaf hx h0]
      have hk : t.kind = 0 ∨ t.kind = 1 ∨ t.kind = 2 ∨ t.kind = 3 ∨ t.kind = 4 ∨ t.kind = 5 := by
        rcases kind_cases hop with h | h | h | h | h | h | h | h | h | h | h | h | h | h | h | h | h | h | h | h <;> first | omega | (exfalso; rw [h] at h0; exact absurd h0 (by decide))
      have lf : ∀ {k q : Int} {v : Val}, t.kind = k → ¬ k = 0 → askW k = (-1, -1, q) → (¬ k = 11 ∧ ¬ k = 16) → leafV t env = (v, 0) → v.k = q → mayV v = true → Snd (kOf l (env.map typingOf) (f + 1) at_) (leafV t env) := by
        intro k q v e1 e2 e3 e4 e5 e6 e7
        have ho : ∀ r : Int × Int, kOp (-1) r = (0, 0) := fun r => by unfold kOp; rw [if_pos rfl]
        rw [kOf_f hx (by rw [e1]; exact e2) (by rw [e1, e3, ho]) (by rw [e1, e3, ho]), e5, e1, e3, ho, ho]
        unfold kFin kFin1 kFinB kFin2
        rw [e3]
        simp [e4.1, e4.2]
        exact snd_ok e6 e7
      rcases hk with hk | hk | hk | hk | hk | hk
      · rw [kOf_var hx hk, leafV_var (by omega) (by omega) (by omega) (by omega) (by omega)]
        exact held_snd _ hall
      · exact lf hk (by decide) rfl (by decide) (show leafV t env = (⟨1, t.n, [], []⟩, 0) by unfold leafV; rw [if_pos hk]) rfl (may_int _)
      · refine lf hk (by decide) rfl (by decide) (show leafV t env = (⟨2, t.n, [], []⟩, 0) by unfold leafV; rw [if_neg (by omega), if_pos hk]) rfl ?_
        unfold fieldsB at hf
        simp [hk] at hf
        unfold mayV
        simp
        exact hf.2.2
      · refine lf hk (by decide) rfl (by decide) (show leafV t env = (⟨3, 0, t.text, []⟩, 0) by unfold leafV; rw [if_neg (by omega), if_neg (by omega), if_pos hk]) rfl ?_
        unfold fieldsB at hf
        simp [hk] at hf
        unfold mayV
        simp
        omega
      · exact lf hk (by decide) rfl (by decide) (show leafV t env = (⟨4, 0, [], []⟩, 0) by unfold leafV; rw [if_neg (by omega), if_neg (by omega), if_neg (by omega), if_pos hk]) rfl (by decide)
      · exact lf hk (by decide) rfl (by decide) (show leafV t env = (v0, 0) by unfold leafV; rw [if_neg (by omega), if_neg (by omega), if_neg (by omega), if_neg (by omega), if_pos hk]) rfl may_v0
    · have hk6 : 6 ≤ t.kind ∧ t.kind ≤ 19 := by
        rcases kind_cases hop with h | h | h | h | h | h | h | h | h | h | h | h | h | h | h | h | h | h | h | h <;> first | omega | (exfalso; rw [h] at h0; exact h0 (by decide))
      have w1 : ¬ (askW t.kind).1 = -1 := by
        rcases kind_cases hop with h | h | h | h | h | h | h | h | h | h | h | h | h | h | h | h | h | h | h | h <;> first | omega | (rw [h]; decide)
      have ha := sound_W hall f t.l (hl (by omega))
      have eA : kOp (askW t.kind).1 (kOf l (env.map typingOf) f t.l) = kOf l (env.map typingOf) f t.l := by unfold kOp; rw [if_neg w1]
      have k0 : ¬ t.kind = 0 := by omega
      rcases ha with ⟨a1, a2⟩ | ⟨a1, a2⟩
      case inr =>
        rw [kOf_a hx k0 (by rw [eA]; omega), evalW_a hx h0 a2, eA]
        exact .inr ⟨a1, a2⟩
      by_cases h2 : operandsI t.kind = 2
      · have w2 : ¬ (askW t.kind).2.1 = -1 := by
          rcases kind_cases hop with h | h | h | h | h | h | h | h | h | h | h | h | h | h | h | h | h | h | h | h <;> first | omega | (rw [h]; decide) | (exfalso; rw [h] at h2; exact absurd h2 (by decide))
        have eB : kOp (askW t.kind).2.1 (kOf l (env.map typingOf) f t.r) = kOf l (env.map typingOf) f t.r := by unfold kOp; rw [if_neg w2]
        have hb := sound_W hall f t.r (hr (by omega))
        rcases hb with ⟨b1, b2⟩ | ⟨b1, b2⟩
        case inr =>
          rw [kOf_b hx k0 (by rw [eA]; exact a1) (by rw [eB]; omega), eB]
          refine .inr ⟨b1, ?_⟩
          by_cases h3 : (evalW l env f t.l).2 = 0
          · rw [evalW_b hx h0 h3 h2 b2]; exact b2
          · rw [evalW_a hx h0 h3]; exact h3
        rw [kOf_f hx k0 (by rw [eA]; exact a1) (by rw [eB]; exact b1), eA, eB]
        have key : ∀ q : Int, (q = 403 ∨ q = 404 ∨ q = 405) → Snd (kFin t.kind (kOf l (env.map typingOf) f t.l).1 (kOf l (env.map typingOf) f t.r).1) (v0, q) := by
          intro q hq
          unfold kFin kFinB
          (repeat' split) <;> first | exact .inr ⟨.inr rfl, by simp; omega⟩ | exact .inl ⟨rfl, .inr hq⟩
        rcases a2 with ⟨a2, a3, a4⟩ | a2
        case inr => rw [evalW_a hx h0 (by omega)]; exact key _ a2
        rcases b2 with ⟨b2, b3, b4⟩ | b2
        case inr => rw [evalW_b hx h0 a2 h2 (by omega)]; exact key _ b2
        rw [evalW_2 hx h0 a2 h2 b2, ← a3, ← b3]
        exact kFin_snd hk6 a4 b4
      · have w2 : (askW t.kind).2.1 = -1 := by
          rcases kind_cases hop with h | h | h | h | h | h | h | h | h | h | h | h | h | h | h | h | h | h | h | h <;> first | omega | (rw [h]; decide) | (exfalso; rw [h] at h2; exact h2 (by decide))
        have eB : kOp (askW t.kind).2.1 (kOf l (env.map typingOf) f t.r) = (0, 0) := by unfold kOp; rw [if_pos w2]
        rw [kOf_f hx k0 (by rw [eA]; exact a1) (by rw [eB]), eA, eB]
        rcases a2 with ⟨a2, a3, a4⟩ | a2
        · rw [evalW_1 hx h0 a2 h2, ← a3]
          exact kFin_snd (b := v0) hk6 a4 may_v0
        · rw [evalW_a hx h0 (by omega)]
          unfold kFin kFinB
          (repeat' split) <;> first | exact .inr ⟨.inr rfl, by simp; omega⟩ | exact .inl ⟨rfl, .inr a2⟩

theorem soundB {l : List Term} {root : Int} {env : List Bind} (hall : ∀ b ∈ env, mayV b.v = true) (htr : mayB l root = true → Tr l (root.toNat + 1) root) :
    (ofS l root (env.map typingOf)).2 = 500 ∧ (evalS l root env).2 = 400 ∨ Snd (ofS l root (env.map typingOf)) (evalS l root env) := by
  unfold ofS evalS
  split
  · rename_i h; exact .inr (sound_W hall _ _ (htr h))
  · exact .inl ⟨rfl, rfl⟩
end Go.Sx

set_option linter.unusedVariables false
namespace Go.Sx
open Go
/-! ## a term of two variables -/
def pqT (k : Int) : List Term := [⟨0, [112], 0, [], -1, -1⟩, ⟨0, [113], 0, [], -1, -1⟩, ⟨k, [], 0, [], 0, 1⟩]
def pqE (a b : Val) (la lb : Value) : List Bind := [⟨[112], a, la⟩, ⟨[113], b, lb⟩]
theorem mayV_kind {x : Val} (h : mayV x = true) : 0 ≤ x.k ∧ x.k ≤ 5 := by
  by_cases hk : 0 ≤ x.k ∧ x.k ≤ 5
  · exact hk
  · unfold mayV at h
    rw [if_neg (by omega), if_neg (by omega), if_neg (by omega), if_neg (by omega), if_neg (by omega), if_neg (by omega)] at h
    cases h
theorem two_cases {k : Int} (h : 6 ≤ k ∧ k ≤ 19) (h1 : ¬ k = 15) (h2 : ¬ k = 16) : k = 6 ∨ k = 7 ∨ k = 8 ∨ k = 9 ∨ k = 10 ∨ k = 11 ∨ k = 12 ∨ k = 13 ∨ k = 14 ∨ k = 17 ∨ k = 18 ∨ k = 19 := by omega
theorem pq_may {k : Int} (h : 6 ≤ k ∧ k ≤ 19) (h1 : ¬ k = 15) (h2 : ¬ k = 16) : mayB (pqT k) 2 = true := by
  rcases two_cases h h1 h2 with rfl | rfl | rfl | rfl | rfl | rfl | rfl | rfl | rfl | rfl | rfl | rfl <;> decide +kernel
theorem two_ask {k : Int} (h : 6 ≤ k ∧ k ≤ 19) (h1 : ¬ k = 15) (h2 : ¬ k = 16) : ¬ (askW k).1 = -1 ∧ ¬ (askW k).2.1 = -1 ∧ operandsI k = 2 := by
  rcases two_cases h h1 h2 with rfl | rfl | rfl | rfl | rfl | rfl | rfl | rfl | rfl | rfl | rfl | rfl <;> decide
theorem pq_of {k : Int} {a b : Val} {la lb : Value} (h : 6 ≤ k ∧ k ≤ 19) (h1 : ¬ k = 15) (h2 : ¬ k = 16) (ha : mayV a = true) (hb : mayV b = true) : ofS (pqT k) 2 ((pqE a b la lb).map typingOf) = kFin k a.k b.k := by
  obtain ⟨w1, w2, _⟩ := two_ask h h1 h2
  have ka := mayV_kind ha; have kb := mayV_kind hb
  unfold ofS
  rw [if_pos (pq_may h h1 h2)]
  have e0 : kOf (pqT k) ((pqE a b la lb).map typingOf) 2 0 = (a.k, 0) := by
    rw [kOf_var (t := ⟨0, [112], 0, [], -1, -1⟩) rfl rfl]
    simp only [pqE, List.map_cons, typingOf, heldS]
    rw [if_pos trivial, if_neg (by omega)]
  have e1 : kOf (pqT k) ((pqE a b la lb).map typingOf) 2 1 = (b.k, 0) := by
    rw [kOf_var (t := ⟨0, [113], 0, [], -1, -1⟩) rfl rfl]
    simp only [pqE, List.map_cons, typingOf, heldS]
    rw [if_neg (by decide), if_pos trivial, if_neg (by omega)]
  show kOf (pqT k) ((pqE a b la lb).map typingOf) (2 + 1) 2 = _
  have o0 : kOp (askW k).1 (kOf (pqT k) ((pqE a b la lb).map typingOf) 2 0) = (a.k, 0) := by unfold kOp; rw [if_neg w1, e0]
  have o1 : kOp (askW k).2.1 (kOf (pqT k) ((pqE a b la lb).map typingOf) 2 1) = (b.k, 0) := by unfold kOp; rw [if_neg w2, e1]
  rw [kOf_f (t := ⟨k, [], 0, [], 0, 1⟩) rfl (by show ¬ k = 0; omega) (by show (kOp (askW k).1 (kOf (pqT k) _ 2 0)).2 = 0; rw [o0]) (by show (kOp (askW k).2.1 (kOf (pqT k) _ 2 1)).2 = 0; rw [o1])]
  show kFin k (kOp (askW k).1 (kOf (pqT k) _ 2 0)).1 (kOp (askW k).2.1 (kOf (pqT k) _ 2 1)).1 = _
  rw [o0, o1]
theorem pq_eval {k : Int} {a b : Val} {la lb : Value} (h : 6 ≤ k ∧ k ≤ 19) (h1 : ¬ k = 15) (h2 : ¬ k = 16) (ha : mayV a = true) (hb : mayV b = true) : evalS (pqT k) 2 (pqE a b la lb) = applyV k a b := by
  obtain ⟨_, _, w⟩ := two_ask h h1 h2
  unfold evalS
  rw [if_pos (pq_may h h1 h2)]
  have e0 : evalW (pqT k) (pqE a b la lb) 2 0 = (a, 0) := by
    rw [evalW_leaf (t := ⟨0, [112], 0, [], -1, -1⟩) rfl rfl]
    simp only [leafV, holdV, pqE]
    rw [if_neg (by decide), if_neg (by decide), if_neg (by decide), if_neg (by decide), if_neg (by decide), if_pos trivial, if_pos ha]
  have e1 : evalW (pqT k) (pqE a b la lb) 2 1 = (b, 0) := by
    rw [evalW_leaf (t := ⟨0, [113], 0, [], -1, -1⟩) rfl rfl]
    simp only [leafV, holdV, pqE]
    rw [if_neg (by decide), if_neg (by decide), if_neg (by decide), if_neg (by decide), if_neg (by decide), if_neg (by decide), if_pos trivial, if_pos hb]
  show evalW (pqT k) (pqE a b la lb) (2 + 1) 2 = _
  rw [evalW_2 (t := ⟨k, [], 0, [], 0, 1⟩) rfl (by show ¬ operandsI k = 0; omega) (by show (evalW (pqT k) _ 2 0).2 = 0; rw [e0]) w (by show (evalW (pqT k) _ 2 1).2 = 0; rw [e1])]
  show applyV k (evalW (pqT k) _ 2 0).1 (evalW (pqT k) _ 2 1).1 = _
  rw [e0, e1]
theorem pq_len {a b : Val} {la lb : Value} (ha : mayV a = true) (hb : mayV b = true) : ∀ z ∈ pqE a b la lb, z.v.l.length ≤ 100000 := by
  intro z hz
  simp only [pqE, List.mem_cons, List.not_mem_nil, or_false] at hz
  rcases hz with rfl | rfl
  · exact mayV_len ha
  · exact mayV_len hb
theorem pq_env {H : Hp} {a b : Val} {la lb : Value} (ha : RdV H la a) (hb : RdV H lb b) : EnvOk H (pqE a b la lb) := by
  intro z hz
  simp only [pqE, List.mem_cons, List.not_mem_nil, or_false] at hz
  rcases hz with rfl | rfl
  · exact ha
  · exact hb
/-- KindMore's answer -/
theorem pq_more {k : Int} {a b c d : Val} {la lb lc ld : Value} (h : 6 ≤ k ∧ k ≤ 19) (h1 : ¬ k = 15) (h2 : ¬ k = 16) (ha : mayV a = true) (hb : mayV b = true) (hc : mayV c = true) (hd : mayV d = true) (e1 : a.k = c.k) (e2 : b.k = d.k) :
    ((ofS (pqT k) 2 ((pqE a b la lb).map typingOf)).2 = 0 ∧ ((evalS (pqT k) 2 (pqE a b la lb)).2 = 0 → (evalS (pqT k) 2 (pqE a b la lb)).1.k = (ofS (pqT k) 2 ((pqE a b la lb).map typingOf)).1) ∧
      ((evalS (pqT k) 2 (pqE c d lc ld)).2 = 0 → (evalS (pqT k) 2 (pqE c d lc ld)).1.k = (ofS (pqT k) 2 ((pqE a b la lb).map typingOf)).1)) ∨
    ((ofS (pqT k) 2 ((pqE a b la lb).map typingOf)).2 = 502 ∧ (evalS (pqT k) 2 (pqE a b la lb)).2 = 402 ∧ (evalS (pqT k) 2 (pqE c d lc ld)).2 = 402) := by
  rw [pq_of h h1 h2 ha hb, pq_eval h h1 h2 ha hb, pq_eval h h1 h2 hc hd]
  have s1 := kFin_sndK h ha hb
  have s2 := kFin_sndK h hc hd
  rw [← e1, ← e2] at s2
  rcases s1 with ⟨p, q⟩ | ⟨p, q⟩
  · left
    rcases s2 with ⟨p2, q2⟩ | ⟨p2, q2⟩
    · refine ⟨p, fun e => ?_, fun e => ?_⟩
      · rcases q with q | q | q | q
        · exact q.2.1
        all_goals (rw [e] at q; exact absurd q (by decide))
      · rcases q2 with q | q | q | q
        · exact q.2.1
        all_goals (rw [e] at q; exact absurd q (by decide))
    · rw [p] at p2; exact absurd p2 (by decide)
  · right
    rcases s2 with ⟨p2, q2⟩ | ⟨p2, q2⟩
    · rw [p] at p2; exact absurd p2 (by decide)
    · exact ⟨p, q, q2⟩
end Go.Sx

set_option linter.unusedVariables false
set_option linter.unusedSimpArgs false
namespace Go.Sx
open Go
/-! ## the library's sort and compact over a slice of one's own -/
theorem enc_gs (s : Str) : Go.Proofs.encStr s = gs s := rfl
theorem putCells_list (d : List Str) (cs : List Value) (h : d.length ≤ cs.length) : (Go.Sort.putCells Go.Proofs.encStr 0 d.toArray cs.toArray).toList = d.map gs ++ cs.drop d.length := by
  apply List.ext_getElem?
  intro k
  rw [List.getElem?_append]
  by_cases hk : k < d.length
  · simp [Go.Sort.putCells, hk, show k < cs.length by omega]
    rfl
  · by_cases hc : k < cs.length
    · simp [Go.Sort.putCells, hk, hc, show d.length + (k - d.length) = k by omega]
    · simp [Go.Sort.putCells, hk, hc, show d.length + (k - d.length) = k by omega]
section
variable {P : Program} {n : Nat} {ops : Array Oper} {Q : Exit → Act → World → Prop} {E : Env} {M : List Nat} {w0 : World} {H0 H : Hp} {L : Blks} {C : World → Prop} {rest : List Oper} {dst : Option Nat} {op : Op} {ty : TypeId} {pos : String} {aft : Array Edge}
theorem St.row {w : World} {b : Nat} {cs : List Value} {R : Blks} {d : List Str} (h : St M w0 H0 H ((b, cs) :: R) w) (hd : d.length ≤ cs.length) (q : Nat) (os : Array Obj) :
    St M w0 H0 H ((b, d.map gs ++ cs.drop d.length) :: R) (Go.Sort.grow (Go.Sort.putRow Go.Proofs.encStr (Go.Sort.ahead w q) b 0 d.toArray) os) := by
  have h1 : St M w0 H0 H ((b, d.map gs ++ cs.drop d.length) :: R) (Go.Sort.putRow Go.Proofs.encStr (Go.Sort.ahead w q) b 0 d.toArray) := by
    refine h.set (Upd.here _) _ (by simp) rfl rfl rfl (fun t ht => ?_) (fun k hk => ?_)
    · have e : (Go.Sort.putCells Go.Proofs.encStr 0 d.toArray cs.toArray) = (d.map gs ++ cs.drop d.length).toArray := by
        apply Array.ext'
        rw [putCells_list d cs hd]
      simp [Go.Sort.putRow, Go.Sort.mapBlock, Array.getElem?_modify, ht, Go.Sort.onCells, e]
    · simp [Go.Sort.putRow, Go.Sort.mapBlock, Array.getElem?_modify, Ne.symm hk]
  refine Ext.st (w := Go.Sort.putRow Go.Proofs.encStr (Go.Sort.ahead w q) b 0 d.toArray) ⟨rfl, rfl, rfl, by simp [Go.Sort.grow], fun k hk => ?_⟩ h1
  simp only [Go.Sort.grow]
  rw [Array.getElem?_append_left hk]
theorem St.holds {w : World} {b : Nat} {cs : List Value} {R : Blks} {d : List Str} (h : St M w0 H0 H ((b, cs) :: R) w) (hd : cs.take d.length = d.map gs) : Go.Sort.Holds Go.Proofs.encStr w b 0 d.toArray := by
  intro j hj
  have hj' : j < d.length := by simpa using hj
  have h1 : cs[j]? = some (gs d[j]) := by
    have : (cs.take d.length)[j]? = some (gs d[j]) := by rw [hd]; simp [hj']
    rw [List.getElem?_take] at this
    simpa [hj'] using this
  constructor
  · rw [Nat.zero_add, h.cell (.here _) j, h1]
    simp [hj', enc_gs]
  · obtain ⟨t, ht⟩ := h.own (b, cs) (by simp)
    have ht' : w.heap[b]? = some (.cells cs.toArray t (0, 0)) := ht
    simp [World.frozen?, ht']

/-- a call whose end is told by an index -/
theorem TL.callG {ι : Type} {f : FuncId} {args : List Value} {Φ : Value → ι → Prop} {C' : ι → World → Prop} (hE : Enters P E op f args) (hF : ∀ w, C w → Calls P f args.toArray w (fun e w' => ∃ v i, e = .returned v ∧ Φ v i ∧ C' i w')) (hd : fits dst n = true)
    (h : ∀ v i, Φ v i → TL P n ops Q rest (putE dst v E) (C' i)) : TL P n ops Q ({ dst := dst, op := op, type := ty, pos := pos, after := aft, guard := none } :: rest) E C := by
  intro a w he hw
  refine wpW_plain rfl (fun K hK => ?_)
  unfold Oper.wp
  rw [hE n a w _ rfl he]
  refine (hF w hw).mono ?_
  rintro e w' ⟨v, i, rfl, hΦ, hC⟩
  exact hK _ _ (h v i hΦ _ _ (he.put hd) hC)

/-- what the library's sort is known to do -/
structure SortC (P : Program) (f : FuncId) : Prop where
  some : ∀ (b off cap : Nat) (ss : List Str) (w : World), Go.Sort.Holds Go.Proofs.encStr w b off ss.toArray → b < w.heap.size → ss.length < 4611686018427387904 →
    Calls P f #[.slice (some ⟨b, off, none⟩) ss.length cap] w fun e w' => e = .returned (.tuple #[]) ∧ ∃ n os, w' = Go.Sort.grow (Go.Sort.putRow Go.Proofs.encStr (Go.Sort.ahead w n) b off (ss.mergeSort fun x y => decide (x ≤ y)).toArray) os
  none : ∀ (p : Option Addr) (cap : Nat) (w : World), Calls P f #[.slice p 0 cap] w fun e w' => e = .returned (.tuple #[]) ∧ w' = w
def sortS (l : List Str) : List Str := l.mergeSort fun x y => decide (x ≤ y)
theorem sortS_len (l : List Str) : (sortS l).length = l.length := List.length_mergeSort _
theorem flat_str (l : List Str) : l.flatMap Str.cells = l.map gs := by
  induction l with
  | nil => rfl
  | cons x l ih => simp [Str.cells, ih]
theorem run_sort {f : FuncId} (hS : SortC P f) {v : Value} {xs : List Str} {ob : Blks} {F : Blks → Blks} (hO : OwnSl 1 Str.cells v xs ob) (hU : Tl ob L F) (hm : xs.length < 4611686018427387904) {w : World} (hw : St M w0 H0 H L w) :
    Calls P f #[v] w (fun e w' => ∃ u ob', e = .returned u ∧ (u = .tuple #[] ∧ OwnSl 1 Str.cells v (sortS xs) ob') ∧ St M w0 H0 H (F ob') w') := by
  obtain ⟨R, hp1, hp2⟩ := hU.perm
  rcases hO with ⟨rfl, rfl, rfl⟩ | ⟨b, cap, cs, rfl, rfl, hcl, htk, hle, hcm⟩
  · refine (hS.none none 0 w).mono ?_
    rintro e w' ⟨rfl, rfl⟩
    exact ⟨_, [], rfl, ⟨rfl, by rw [show sortS [] = [] by unfold sortS; simp]; exact OwnSl.nil⟩, hw.perm (hp1.trans (hp2 []).symm)⟩
  · have hwR := hw.perm hp1
    have ht : cs.take xs.length = xs.map gs := by rw [← flat_str, ← htk, Nat.mul_one]
    have hlen : xs.length ≤ cs.length := by omega
    refine (hS.some b 0 cap xs w (hwR.holds ht) (hwR.lt (p := (b, cs)) (by simp)) hm).mono ?_
    rintro e w' ⟨rfl, q, os, rfl⟩
    have h2 := hwR.row (d := sortS xs) (by rw [sortS_len]; exact hlen) q os
    refine ⟨_, [(b, (sortS xs).map gs ++ cs.drop (sortS xs).length)], rfl, ⟨rfl, .inr ⟨b, cap, _, by rw [sortS_len], rfl, ?_, ?_, by rw [sortS_len]; exact hle, hcm⟩⟩, h2.perm (hp2 [(b, _)]).symm⟩
    · simp [sortS_len]; omega
    · rw [Nat.mul_one, flat_str, List.take_left' (by simp)]
theorem TL.sort {f : FuncId} {v : Value} {xs : List Str} {ob : Blks} {F : Blks → Blks} (hE : Enters P E op f [v]) (hS : SortC P f) (hO : OwnSl 1 Str.cells v xs ob) (hU : Tl ob L F) (hm : xs.length < 4611686018427387904) (hd : fits dst n = true)
    (h : ∀ ob', OwnSl 1 Str.cells v (sortS xs) ob' → TL P n ops Q rest (putE dst (.tuple #[]) E) (St M w0 H0 H (F ob'))) :
    TL P n ops Q ({ dst := dst, op := op, type := ty, pos := pos, after := aft, guard := none } :: rest) E (St M w0 H0 H L) :=
  TL.callG (ι := Blks) (Φ := fun u ob' => u = .tuple #[] ∧ OwnSl 1 Str.cells v (sortS xs) ob') (C' := fun ob' => St M w0 H0 H (F ob')) hE (fun w hw => run_sort hS hO hU hm hw) hd (fun u ob' hΦ => by obtain ⟨rfl, hO'⟩ := hΦ; exact h ob' hO')
/-- what the library's compact is known to do -/
structure CompactC (P : Program) (f : FuncId) : Prop where
  some : ∀ (b off cap : Nat) (zs : List Str) (w : World), Go.Sort.Holds Go.Proofs.encStr w b off zs.toArray → zs.length ≤ 9223372036854775807 → zs.length ≤ cap →
    Calls P f #[.slice (some ⟨b, off, none⟩) zs.length cap] w fun e w' => e = .returned (.slice (some ⟨b, off, none⟩) (Lib.compact zs).length cap) ∧ ∃ q, w' = Go.Sort.putRow Go.Proofs.encStr (Go.Sort.ahead w q) b off (Lib.compact zs ++ List.replicate (zs.length - (Lib.compact zs).length) []).toArray
  none : ∀ (p : Option Addr) (cap : Nat) (w : World), Calls P f #[.slice p 0 cap] w fun e w' => e = .returned (.slice p 0 cap) ∧ w' = w
theorem run_compact {f : FuncId} (hS : CompactC P f) {v : Value} {xs : List Str} {ob : Blks} {F : Blks → Blks} (hO : OwnSl 1 Str.cells v xs ob) (hU : Tl ob L F) {w : World} (hw : St M w0 H0 H L w) :
    Calls P f #[v] w (fun e w' => ∃ u ob', e = .returned u ∧ OwnSl 1 Str.cells u (Lib.compact xs) ob' ∧ St M w0 H0 H (F ob') w') := by
  obtain ⟨R, hp1, hp2⟩ := hU.perm
  rcases hO with ⟨rfl, rfl, rfl⟩ | ⟨b, cap, cs, rfl, rfl, hcl, htk, hle, hcm⟩
  · refine (hS.none none 0 w).mono ?_
    rintro e w' ⟨rfl, rfl⟩
    exact ⟨_, [], rfl, OwnSl.nil, hw.perm (hp1.trans (hp2 []).symm)⟩
  · have hwR := hw.perm hp1
    have ht : cs.take xs.length = xs.map gs := by rw [← flat_str, ← htk, Nat.mul_one]
    have hlen : xs.length ≤ cs.length := by omega
    have hc := Lib.compact_length_le xs
    refine (hS.some b 0 cap xs w (hwR.holds ht) (by omega) hle).mono ?_
    rintro e w' ⟨rfl, q, rfl⟩
    have hl2 : (Lib.compact xs ++ List.replicate (xs.length - (Lib.compact xs).length) ([] : Str)).length = xs.length := by simp; omega
    have h2 := hwR.row (d := Lib.compact xs ++ List.replicate (xs.length - (Lib.compact xs).length) []) (by rw [hl2]; exact hlen) q #[]
    have hg : ∀ W : World, Go.Sort.grow W #[] = W := fun W => by simp [Go.Sort.grow]
    rw [hg, hl2] at h2
    refine ⟨_, [(b, (Lib.compact xs ++ List.replicate (xs.length - (Lib.compact xs).length) ([] : Str)).map gs ++ cs.drop xs.length)], rfl, .inr ⟨b, cap, _, rfl, rfl, ?_, ?_, by omega, hcm⟩, h2.perm (hp2 [(b, _)]).symm⟩
    · rw [List.length_append, List.length_map, hl2]; simp; omega
    · rw [Nat.mul_one, flat_str, List.map_append, List.append_assoc, List.take_left' (by simp)]
theorem TL.compact {f : FuncId} {v : Value} {xs : List Str} {ob : Blks} {F : Blks → Blks} (hE : Enters P E op f [v]) (hS : CompactC P f) (hO : OwnSl 1 Str.cells v xs ob) (hU : Tl ob L F) (hd : fits dst n = true)
    (h : ∀ a c ob', OwnSl 1 Str.cells (.slice a (Lib.compact xs).length c) (Lib.compact xs) ob' → TL P n ops Q rest (putE dst (.slice a (Lib.compact xs).length c) E) (St M w0 H0 H (F ob'))) :
    TL P n ops Q ({ dst := dst, op := op, type := ty, pos := pos, after := aft, guard := none } :: rest) E (St M w0 H0 H L) :=
  TL.callG (ι := Blks) (Φ := fun u ob' => OwnSl 1 Str.cells u (Lib.compact xs) ob') (C' := fun ob' => St M w0 H0 H (F ob')) hE (fun w hw => run_compact hS hO hU hw) hd (fun u ob' hΦ => by obtain ⟨a, c, rfl⟩ := hΦ.form; exact h a c ob' hΦ)
end
end Go.Sx

set_option linter.unusedVariables false
namespace Go.Sx
open Go
/-! ## the variables of a term -/
def varsW (l : List Term) : Nat → Int → List Str
  | 0, _ => []
  | f + 1, at_ => if at_ < 0 then [] else match l[at_.toNat]? with
    | none => []
    | some t => varsW l f t.l ++ (varsW l f t.r ++ (if t.kind = 0 then [t.name] else []))
theorem varsW_neg {l : List Term} {f : Nat} {at_ : Int} (h : at_ < 0) : varsW l f at_ = [] := by
  cases f with
  | zero => rfl
  | succ f => unfold varsW; rw [if_pos h]
theorem varsW_at {l : List Term} {f : Nat} {at_ : Int} {t : Term} (h : ¬ at_ < 0) (hx : l[at_.toNat]? = some t) : varsW l (f + 1) at_ = varsW l f t.l ++ (varsW l f t.r ++ (if t.kind = 0 then [t.name] else [])) := by
  rw [varsW, if_neg h, hx]
theorem mayW_vars {l : List Term} : ∀ (f : Nat) (at_ deep : Int) (met : List Bool), 0 ≤ at_ → 1 ≤ deep → (mayW l f at_ deep met).1 = true → (varsW l f at_).length ≤ 2 ^ (25 - deep.toNat) := by
  intro f
  induction f with
  | zero => intro at_ deep met _ _ h; simp [mayW] at h
  | succ f ih =>
    intro at_ deep met h0 hd h
    cases hx : l[at_.toNat]? with
    | none => simp [mayW, hx] at h
    | some t =>
      by_cases hg : met[at_.toNat]?.getD false = true ∨ 24 < deep ∨ operandsI t.kind < 0 ∨ fieldsB t = false
      · rw [mayW_F hx hg] at h; cases h
      · have hgg : MayG deep met at_ t := by
          refine ⟨?_, ?_, ?_, ?_⟩
          · cases hb : met[at_.toNat]?.getD false with
            | false => rfl
            | true => exact absurd (.inl hb) hg
          · intro h1; exact hg (.inr (.inl h1))
          · intro h1; exact hg (.inr (.inr (.inl h1)))
          · cases hb : fieldsB t with
            | true => rfl
            | false => exact absurd (.inr (.inr (.inr hb))) hg
        generalize h00 : opW (operandsI t.kind) at_ (fun to m => mayW l f to (deep + 1) m) 0 t.l (met.set at_.toNat true) = r0
        obtain ⟨b0, m0⟩ := r0
        cases b0 with
        | false => rw [mayW_0 hx hgg h00] at h; cases h
        | true =>
          generalize h11 : opW (operandsI t.kind) at_ (fun to m => mayW l f to (deep + 1) m) 1 t.r m0 = r1
          rw [mayW_1 hx hgg h00 h11] at h
          have h24 := hgg.2.1
          have key : ∀ (i to : Int) (m m' : List Bool), opW (operandsI t.kind) at_ (fun to m => mayW l f to (deep + 1) m) i to m = (true, m') → (i < operandsI t.kind → (varsW l f to).length ≤ 2 ^ (25 - (deep + 1).toNat)) ∧ (operandsI t.kind ≤ i → varsW l f to = []) := by
            intro i to m m' he
            refine ⟨fun hi => ?_, fun hi => ?_⟩
            · by_cases hb : to < 0 ∨ at_ ≤ to
              · rw [opW_bad (by omega) hb] at he; cases he
              · rw [opW_rec (by omega) (by omega) (by omega)] at he
                exact ih to (deep + 1) m (by omega) (by omega) (by rw [he])
            · rw [opW_le hi] at he
              have : to = -1 := by simpa using congrArg Prod.fst he
              exact varsW_neg (by omega)
          have k0 := key 0 t.l _ _ h00
          have k1 := key 1 t.r _ r1.2 (by rw [h11]; cases r1; simp at h; simp [h])
          rw [varsW_at (by omega) hx]
          have hp : 2 ^ (25 - deep.toNat) = 2 * 2 ^ (25 - (deep + 1).toNat) := by
            rw [show 25 - deep.toNat = (25 - (deep + 1).toNat) + 1 by omega, Nat.pow_succ]; omega
          have h1 : 0 < 2 ^ (25 - (deep + 1).toNat) := Nat.two_pow_pos _
          simp only [List.length_append]
          by_cases hk : t.kind = 0
          · have ho : operandsI t.kind = 0 := by rw [hk]; decide
            rw [k0.2 (by omega), k1.2 (by omega), if_pos hk]
            simp; omega
          · rw [if_neg hk]
            have a0 : (varsW l f t.l).length ≤ 2 ^ (25 - (deep + 1).toNat) := by
              rcases Int.lt_or_le 0 (operandsI t.kind) with ho | ho
              · exact k0.1 ho
              · rw [k0.2 ho]; simp
            have a1 : (varsW l f t.r).length ≤ 2 ^ (25 - (deep + 1).toNat) := by
              rcases Int.lt_or_le 1 (operandsI t.kind) with ho | ho
              · exact k1.1 ho
              · rw [k1.2 ho]; simp
            simp; omega
theorem mayB_vars {l : List Term} {root : Int} (h : mayB l root = true) : (varsW l (root.toNat + 1) root).length ≤ 16777216 := by
  unfold mayB at h
  split at h
  · cases h
  · split at h
    · cases h
    · split at h
      · cases h
      · have := mayW_vars _ _ _ _ (by omega) (by decide) h
        exact this
/-- term.Vars -/
def varsS (l : List Term) (root : Int) : List Str := if mayB l root then Lib.compact (sortS (varsW l (root.toNat + 1) root)) else []
/-! names in a row -/
def placeS (l : List Str) (s : Str) : Int := match l with
  | [] => -1
  | x :: r => if x = s then 0 else if placeS r s < 0 then -1 else placeS r s + 1
theorem placeS_range (l : List Str) (s : Str) : placeS l s = -1 ∨ (0 ≤ placeS l s ∧ placeS l s < l.length) := by
  induction l with
  | nil => exact .inl rfl
  | cons x r ih =>
    unfold placeS
    split
    · right; simp only [List.length_cons, Int.natCast_add]; omega
    · split
      · exact .inl rfl
      · right; simp only [List.length_cons, Int.natCast_add]; omega
theorem placeS_hit {l : List Str} {s : Str} {k : Int} (h0 : 0 ≤ k) (hx : l[k.toNat]? = some s) (hn : ∀ j : Nat, j < k.toNat → l[j]? ≠ some s) : placeS l s = k := by
  induction l generalizing k with
  | nil => simp at hx
  | cons x r ih =>
    unfold placeS
    by_cases hk : k = 0
    · subst hk
      simp at hx
      rw [if_pos hx]
    · have hne : ¬ x = s := by
        have := hn 0 (by omega)
        simpa using this
      rw [if_neg hne]
      have e := ih (k := k - 1) (by omega) (by
        rw [show k.toNat = (k - 1).toNat + 1 by omega] at hx
        simpa using hx) (fun j hj => by
          have := hn (j + 1) (by omega)
          simpa using this)
      rw [e, if_neg (by omega)]; omega
theorem placeS_no {l : List Str} {s : Str} (hn : s ∉ l) : placeS l s = -1 := by
  induction l with
  | nil => rfl
  | cons x r ih =>
    simp only [List.mem_cons, not_or] at hn
    unfold placeS
    rw [if_neg (fun e => hn.1 e.symm), ih hn.2]; rfl
theorem placeS_mem {l : List Str} {s : Str} : 0 ≤ placeS l s ↔ s ∈ l := by
  constructor
  · intro h
    apply Classical.byContradiction
    intro hn
    rw [placeS_no hn] at h
    omega
  · intro h
    induction l with
    | nil => cases h
    | cons x r ih =>
      unfold placeS
      split
      · decide
      · rename_i hne
        have h1 := ih (by rcases List.mem_cons.1 h with rfl | h; exact absurd rfl hne; exact h)
        rw [if_neg (by omega)]; omega
theorem place_next {l : List Str} {s x : Str} {k : Int} (h0 : 0 ≤ k) (h : ∀ j : Nat, j < k.toNat → l[j]? ≠ some s) (hx : l[k.toNat]? = some x) (hne : ¬ x = s) : ∀ j : Nat, j < (k + 1).toNat → l[j]? ≠ some s := by
  intro j hj
  by_cases hk : j = k.toNat
  · subst hk; rw [hx]; simpa using hne
  · exact h j (by omega)
theorem place_end {l : List Str} {s : Str} {k : Int} (h : ∀ j : Nat, j < k.toNat → l[j]? ≠ some s) (hk : ¬ k < l.length) : placeS l s = -1 := by
  refine placeS_no (fun hm => ?_)
  obtain ⟨j, hj⟩ := List.mem_iff_getElem?.1 hm
  exact h j (by have := (List.getElem?_eq_some_iff.1 hj).1; omega) hj
def hasS (l : List Str) (s : Str) : Bool := decide (s ∈ l)
theorem hasS_place (l : List Str) (s : Str) : decide (0 ≤ placeS l s) = hasS l s := by
  unfold hasS
  rw [Bool.eq_iff_iff]; simp only [decide_eq_true_eq]
  exact placeS_mem
end Go.Sx

set_option linter.unusedVariables false
namespace Go.Sx
open Go
/-! ## rows of names: what is in them -/
theorem mem_compact {zs : List Str} {x : Str} : x ∈ Lib.compact zs ↔ x ∈ zs := by
  unfold Lib.compact Lib.compactUpTo
  simp only [List.mem_map, List.mem_filter, List.mem_range]
  constructor
  · rintro ⟨j, ⟨hj, _⟩, rfl⟩
    have : j < zs.toArray.size := by simpa using hj
    rw [getElem!_pos zs.toArray j this]
    simp
  · intro hx
    obtain ⟨j, hj, rfl⟩ := List.getElem_of_mem hx
    have key : ∀ j (hj : j < zs.length), ∃ i, (i < zs.length ∧ Lib.keeps zs.toArray i = true) ∧ zs.toArray[i]! = zs[j] := by
      intro j
      induction j with
      | zero =>
        intro hj
        refine ⟨0, ⟨hj, by simp [Lib.keeps]⟩, ?_⟩
        rw [getElem!_pos zs.toArray 0 (by simpa using hj)]; simp
      | succ j ih =>
        intro hj
        by_cases hk : Lib.keeps zs.toArray (j + 1) = true
        · refine ⟨j + 1, ⟨hj, hk⟩, ?_⟩
          rw [getElem!_pos zs.toArray (j + 1) (by simpa using hj)]; simp
        · obtain ⟨i, hi, he⟩ := ih (by omega)
          refine ⟨i, hi, ?_⟩
          rw [he]
          have : zs.toArray[j + 1]! = zs.toArray[j]! := by
            simpa [Lib.keeps] using hk
          rw [getElem!_pos zs.toArray (j + 1) (by simpa using hj), getElem!_pos zs.toArray j (by simp; omega)] at this
          simpa using this.symm
    obtain ⟨i, hi, he⟩ := key j hj
    exact ⟨i, hi, he⟩
theorem mem_sortS {zs : List Str} {x : Str} : x ∈ sortS zs ↔ x ∈ zs := by unfold sortS; exact List.mem_mergeSort
theorem mem_varsS {l : List Term} {root : Int} {x : Str} (h : mayB l root = true) : x ∈ varsS l root ↔ x ∈ varsW l (root.toNat + 1) root := by
  unfold varsS; rw [if_pos h, mem_compact, mem_sortS]
theorem varsS_none {l : List Term} {root : Int} (h : ¬ mayB l root = true) : varsS l root = [] := by unfold varsS; rw [if_neg h]
theorem compact_len (zs : List Str) : (Lib.compact zs).length ≤ zs.length := Lib.compact_length_le zs
theorem varsS_len (l : List Term) (root : Int) : (varsS l root).length ≤ 16777216 := by
  unfold varsS
  split
  · rename_i h
    have := compact_len (sortS (varsW l (root.toNat + 1) root))
    rw [sortS_len] at this
    have := mayB_vars h
    omega
  · simp

/-! ## a term's kind leans on its variables' alone -/
def oneB (env : List Typing) (s : Str) : Bool := env.any fun t => decide (t.name = s)
def knownB (env : List Typing) (l : List Str) : Bool := l.all (oneB env)
def keepT (l : List Str) (more : List Typing) : List Typing := more.filter fun t => !hasS l t.name
theorem held_none {env : List Typing} {s : Str} (h : oneB env s = false) : heldS env s = (0, 501) := by
  induction env with
  | nil => rfl
  | cons t r ih =>
    simp only [oneB, List.any_cons, Bool.or_eq_false_iff, decide_eq_false_iff_not] at h
    simp only [heldS]; rw [if_neg h.1]; exact ih h.2
theorem held_app {a b : List Typing} {s : Str} (h : oneB a s = true) : heldS (a ++ b) s = heldS a s := by
  induction a with
  | nil => simp [oneB] at h
  | cons t r ih =>
    simp only [List.cons_append, heldS]
    by_cases ht : t.name = s
    · rw [if_pos ht, if_pos ht]
    · rw [if_neg ht, if_neg ht]
      exact ih (by simpa [oneB, ht] using h)
theorem held_past {a b : List Typing} {s : Str} (h : oneB a s = false) : heldS (a ++ b) s = heldS b s := by
  induction a with
  | nil => rfl
  | cons t r ih =>
    simp only [oneB, List.any_cons, Bool.or_eq_false_iff, decide_eq_false_iff_not] at h
    simp only [List.cons_append, heldS]; rw [if_neg h.1]; exact ih h.2
theorem keep_none {l : List Str} {more : List Typing} {s : Str} (h : s ∈ l) : oneB (keepT l more) s = false := by
  unfold oneB keepT
  rw [List.any_eq_false]
  intro t ht
  simp only [List.mem_filter, Bool.not_eq_true', hasS, decide_eq_false_iff_not] at ht
  simp only [decide_eq_true_eq]
  rintro rfl
  exact ht.2 h
theorem held_zero {env : List Typing} {s : Str} : ¬ (heldS env s).2 = 0 → (heldS env s).1 = 0 := by
  induction env with
  | nil => intro _; rfl
  | cons t r ih =>
    simp only [heldS]
    split
    · split
      · intro _; rfl
      · intro h; exact absurd rfl h
    · exact ih
theorem ask_two {k : Int} (h : operandsI k = 2) : ¬ (askW k).1 = -1 ∧ ¬ (askW k).2.1 = -1 := by
  rcases kind_cases (by omega : 0 ≤ operandsI k) with rfl | rfl | rfl | rfl | rfl | rfl | rfl | rfl | rfl | rfl | rfl | rfl | rfl | rfl | rfl | rfl | rfl | rfl | rfl | rfl <;> first | decide | (exact absurd h (by decide))
theorem ask_one {k : Int} (h : operandsI k = 1) : ¬ (askW k).1 = -1 ∧ (askW k).2.1 = -1 := by
  rcases kind_cases (by omega : 0 ≤ operandsI k) with rfl | rfl | rfl | rfl | rfl | rfl | rfl | rfl | rfl | rfl | rfl | rfl | rfl | rfl | rfl | rfl | rfl | rfl | rfl | rfl <;> first | decide | (exact absurd h (by decide))
theorem ask_none {k : Int} (h : operandsI k = 0) : (askW k).1 = -1 ∧ (askW k).2.1 = -1 := by
  rcases kind_cases (by omega : 0 ≤ operandsI k) with rfl | rfl | rfl | rfl | rfl | rfl | rfl | rfl | rfl | rfl | rfl | rfl | rfl | rfl | rfl | rfl | rfl | rfl | rfl | rfl <;> first | decide | (exact absurd h (by decide))
theorem kOf_eq {l : List Term} {env : List Typing} {f : Nat} {at_ : Int} {t : Term} (hx : l[at_.toNat]? = some t) (h : ¬ t.kind = 0) : kOf l env (f + 1) at_ =
    (let a := kOp (askW t.kind).1 (kOf l env f t.l)
     if a.2 ≠ 0 then (0, a.2) else
      let b := kOp (askW t.kind).2.1 (kOf l env f t.r)
      if b.2 ≠ 0 then (0, b.2) else kFin t.kind a.1 b.1) := by
  simp only [kOf, hx]; rw [if_neg h]
theorem kOf_congr {l : List Term} {env env' : List Typing} : ∀ (f : Nat) (at_ : Int), Tr l f at_ → (∀ s ∈ varsW l f at_, heldS env s = heldS env' s) → kOf l env f at_ = kOf l env' f at_
  | 0, _, h, _ => h.elim
  | f + 1, at_, h, hv => by
    obtain ⟨h0, t, hx, hop, _, hl, hl', hr, hr'⟩ := h
    rw [varsW_at (by omega) hx] at hv
    by_cases hk : t.kind = 0
    · rw [kOf_var hx hk, kOf_var hx hk]
      exact hv t.name (by rw [if_pos hk]; simp)
    · rw [kOf_eq hx hk, kOf_eq hx hk]
      have ea : kOp (askW t.kind).1 (kOf l env f t.l) = kOp (askW t.kind).1 (kOf l env' f t.l) := by
        unfold kOp
        split
        · rfl
        · rename_i h1
          exact kOf_congr f t.l (hl (askW_a hop h1)) (fun s hs => hv s (by simp [hs]))
      have eb : kOp (askW t.kind).2.1 (kOf l env f t.r) = kOp (askW t.kind).2.1 (kOf l env' f t.r) := by
        unfold kOp
        split
        · rfl
        · rename_i h1
          exact kOf_congr f t.r (hr (askW_b hop h1)) (fun s hs => hv s (by simp [hs]))
      rw [ea, eb]
theorem kOf_known {l : List Term} {env : List Typing} : ∀ (f : Nat) (at_ : Int), Tr l f at_ → (kOf l env f at_).2 = 0 → ∀ s ∈ varsW l f at_, oneB env s = true
  | 0, _, h, _, _, _ => h.elim
  | f + 1, at_, h, he, s, hs => by
    obtain ⟨h0, t, hx, hop, _, hl, hl', hr, hr'⟩ := h
    rw [varsW_at (by omega) hx] at hs
    by_cases hk : t.kind = 0
    · have ho : operandsI t.kind = 0 := by rw [hk]; decide
      rw [kOf_var hx hk] at he
      rw [varsW_neg (by have := hl' (by omega); omega), varsW_neg (by have := hr' (by omega); omega), if_pos hk] at hs
      have hs : s = t.name := by simpa using hs
      subst hs
      cases hb : oneB env t.name with
      | true => rfl
      | false => rw [held_none hb] at he; exact absurd he (by decide)
    · rw [if_neg hk] at hs
      rw [kOf_eq hx hk] at he
      have ha : (kOp (askW t.kind).1 (kOf l env f t.l)).2 = 0 := by
        apply Classical.byContradiction
        intro h1
        simp only [ne_eq, h1, not_false_iff, if_true] at he
      simp only [ne_eq, ha, not_true, if_false] at he
      have hb : (kOp (askW t.kind).2.1 (kOf l env f t.r)).2 = 0 := by
        apply Classical.byContradiction
        intro h1
        simp only [h1, not_false_iff, if_true] at he
      simp only [List.append_nil, List.mem_append] at hs
      have hle := operandsI_le t.kind
      rcases hs with hs | hs
      · by_cases h1 : 1 ≤ operandsI t.kind
        · have hq : ¬ (askW t.kind).1 = -1 := by
            rcases (by omega : operandsI t.kind = 1 ∨ operandsI t.kind = 2) with h2 | h2
            · exact (ask_one h2).1
            · exact (ask_two h2).1
          unfold kOp at ha
          rw [if_neg hq] at ha
          exact kOf_known f t.l (hl h1) ha s hs
        · rw [varsW_neg (by have := hl' (by omega); omega)] at hs; cases hs
      · by_cases h1 : 2 ≤ operandsI t.kind
        · have hq := (ask_two (by omega : operandsI t.kind = 2)).2
          unfold kOp at hb
          rw [if_neg hq] at hb
          exact kOf_known f t.r (hr h1) hb s hs
        · rw [varsW_neg (by have := hr' (by omega); omega)] at hs; cases hs
theorem kFin_zero {k a b : Int} : ¬ (kFin k a b).2 = 0 → (kFin k a b).1 = 0 := by
  unfold kFin kFinB
  (repeat' split) <;> simp
theorem kOf_zero {l : List Term} {env : List Typing} (f : Nat) (at_ : Int) : ¬ (kOf l env f at_).2 = 0 → (kOf l env f at_).1 = 0 := by
  cases f with
  | zero => intro _; rfl
  | succ f =>
    cases hx : l[at_.toNat]? with
    | none => intro _; simp [kOf, hx]
    | some t =>
      by_cases hk : t.kind = 0
      · rw [kOf_var hx hk]; exact held_zero
      · rw [kOf_eq hx hk]
        simp only
        split
        · intro _; rfl
        · split
          · intro _; rfl
          · exact kFin_zero
/-- KindNames's answer -/
theorem names_kind (l : List Term) (root : Int) (env more : List Typing) :
    (knownB env (varsS l root) = true → ofS l root ((keepT (varsS l root) more ++ env) ++ more) = ofS l root env) ∧
    (knownB env (varsS l root) = false → ¬ (ofS l root env).2 = 0 ∧ (ofS l root env).1 = 0) := by
  unfold ofS
  by_cases hm : mayB l root = true
  · rw [if_pos hm, if_pos hm]
    refine ⟨fun hk => ?_, fun hk => ?_⟩
    · refine kOf_congr _ _ (mayB_Tr hm) (fun s hs => ?_)
      have hs' := (mem_varsS hm).2 hs
      have h1 : oneB env s = true := List.all_eq_true.1 hk s hs'
      rw [List.append_assoc, held_past (keep_none hs'), held_app h1]
    · have he : ¬ (kOf l env (root.toNat + 1) root).2 = 0 := by
        intro h0
        have := kOf_known _ _ (mayB_Tr hm) h0
        have hk' : knownB env (varsS l root) = true := List.all_eq_true.2 (fun s hs => this s ((mem_varsS hm).1 hs))
        rw [hk] at hk'; cases hk'
      exact ⟨he, kOf_zero _ _ he⟩
  · rw [if_neg hm, if_neg hm, varsS_none hm]
    exact ⟨fun _ => rfl, fun h => by cases h⟩
/-! the loops -/
theorem keepT_snoc {l : List Str} {a : List Typing} {t : Typing} : keepT l (a ++ [t]) = if hasS l t.name then keepT l a else keepT l a ++ [t] := by
  unfold keepT
  rw [List.filter_append]
  cases hb : hasS l t.name <;> simp [hb]
theorem keepT_len (l : List Str) (a : List Typing) : (keepT l a).length ≤ a.length := List.length_filter_le _ _
theorem oneB_snoc {a : List Typing} {t : Typing} {s : Str} : oneB (a ++ [t]) s = (oneB a s || decide (t.name = s)) := by
  unfold oneB; simp
theorem knownB_snoc {env : List Typing} {a : List Str} {s : Str} : knownB env (a ++ [s]) = (knownB env a && oneB env s) := by
  unfold knownB; simp
end Go.Sx

set_option linter.unusedVariables false
set_option linter.unusedSimpArgs false
namespace Go.Sx
open Go
/-! ## trees of terms -/
theorem mayB_iff {l : List Term} {root : Int} : mayB l root = true ↔ ((l.length : Int) ≤ 160 ∧ 0 ≤ root ∧ root < l.length) ∧ ∃ p, preL l (root.toNat + 1) root.toNat 1 = some p ∧ p.Nodup := by
  by_cases h : (l.length : Int) ≤ 160 ∧ 0 ≤ root ∧ root < l.length
  · rw [mayB_T h, may_pre h.2]
    exact ⟨fun h2 => ⟨h, h2⟩, fun h2 => h2.2⟩
  · constructor
    · intro hm
      exfalso
      unfold mayB at hm
      split at hm
      · cases hm
      · split at hm
        · cases hm
        · split at hm
          · cases hm
          · omega
    · intro h2; exact absurd h2.1 h
theorem okT_ops {t : Term} {at_ deep : Int} (h : okT t at_ deep = true) : 0 ≤ operandsI t.kind ∧ fieldsB t = true ∧ deep ≤ 24 ∧ (operandsI t.kind < 1 → t.l = -1) ∧ (operandsI t.kind < 2 → t.r = -1) := by
  unfold okT at h
  simp only [Bool.and_eq_true, decide_eq_true_eq] at h
  refine ⟨h.1.1, h.1.2, h.2.1, fun h1 => ?_, fun h1 => ?_⟩
  · have := h.2.2.1; rw [if_pos h1] at this; simpa using this
  · have := h.2.2.2; rw [if_pos h1] at this; simpa using this
theorem okT_deep {t : Term} {at_ deep deep' : Int} (h : okT t at_ deep = true) (hd : deep' ≤ 24) : okT t at_ deep' = true := by
  unfold okT at *
  simp only [Bool.and_eq_true, decide_eq_true_eq] at *
  exact ⟨h.1, hd, h.2.2⟩
theorem preL_len {l : List Term} {f at_ : Nat} {deep : Int} {p : List Nat} (h : preL l f at_ deep = some p) : at_ < l.length := by
  cases f with
  | zero => simp [preL] at h
  | succ f => obtain ⟨t, p0, q0, hx, _⟩ := preL_some h; exact (List.getElem?_eq_some_iff.1 hx).1
theorem preL_up {l : List Term} : ∀ (f at_ : Nat) (deep deep' : Int) (p : List Nat), preL l f at_ deep = some p → deep' ≤ deep → preL l f at_ deep' = some p := by
  intro f
  induction f with
  | zero => intro at_ deep deep' p h; simp [preL] at h
  | succ f ih =>
    intro at_ deep deep' p h hd
    obtain ⟨t, p0, q0, hx, hok, h0, h1, rfl⟩ := preL_some h
    have := (okT_ops hok).2.2.1
    refine preL_mk hx (okT_deep hok (by omega)) ?_ ?_
    · split
      · rename_i hk; rw [if_pos hk] at h0; exact h0
      · rename_i hk; rw [if_neg hk] at h0; exact ih _ _ _ _ h0 (by omega)
    · split
      · rename_i hk; rw [if_pos hk] at h1; exact h1
      · rename_i hk; rw [if_neg hk] at h1; exact ih _ _ _ _ h1 (by omega)
/-- a place of a tree is the root of a tree -/
theorem preL_sub {l : List Term} : ∀ (f at_ : Nat) (deep : Int) (p : List Nat), preL l f at_ deep = some p → ∀ i ∈ p, ∃ g q d, preL l g i d = some q ∧ q.Sublist p ∧ deep ≤ d := by
  intro f
  induction f with
  | zero => intro at_ deep p h; simp [preL] at h
  | succ f ih =>
    intro at_ deep p h i hi
    obtain ⟨t, p0, q0, hx, hok, h0, h1, rfl⟩ := preL_some h
    rcases List.mem_cons.1 hi with rfl | hi
    · exact ⟨f + 1, _, deep, h, List.Sublist.refl _, Int.le_refl _⟩
    rcases List.mem_append.1 hi with hi | hi
    · split at h0
      · simp only [Option.some.injEq] at h0; subst h0; cases hi
      · obtain ⟨g, q, d, e1, e2, e3⟩ := ih _ _ _ h0 i hi
        exact ⟨g, q, d, e1, e2.trans ((List.sublist_append_left _ _).trans (List.sublist_cons_self _ _)), by omega⟩
    · split at h1
      · simp only [Option.some.injEq] at h1; subst h1; cases hi
      · obtain ⟨g, q, d, e1, e2, e3⟩ := ih _ _ _ h1 i hi
        exact ⟨g, q, d, e1, e2.trans ((List.sublist_append_right _ _).trans (List.sublist_cons_self _ _)), by omega⟩
theorem preL_any {l : List Term} : ∀ (f at_ : Nat) (deep : Int) (p : List Nat), preL l f at_ deep = some p → ∀ g, at_ < g → preL l g at_ deep = some p := by
  intro f
  induction f with
  | zero => intro at_ deep p h; simp [preL] at h
  | succ f ih =>
    intro at_ deep p h g hg
    obtain ⟨t, p0, q0, hx, hok, h0, h1, rfl⟩ := preL_some h
    cases g with
    | zero => omega
    | succ g =>
      refine preL_mk hx hok ?_ ?_
      · split
        · rename_i hk; rw [if_pos hk] at h0; exact h0
        · rename_i hk; rw [if_neg hk] at h0; have := okT_l hok hk; exact ih _ _ _ h0 g (by omega)
      · split
        · rename_i hk; rw [if_pos hk] at h1; exact h1
        · rename_i hk; rw [if_neg hk] at h1; have := okT_r hok hk; exact ih _ _ _ h1 g (by omega)
theorem mayB_sub {l : List Term} {root : Int} {p : List Nat} (h : mayB l root = true) (hp : preL l (root.toNat + 1) root.toNat 1 = some p) {i : Nat} (hi : i ∈ p) : mayB l i = true := by
  obtain ⟨h1, p', hp', hn⟩ := mayB_iff.1 h
  rw [hp] at hp'
  obtain rfl := Option.some.inj hp'
  obtain ⟨g, q, d, e1, e2, e3⟩ := preL_sub _ _ _ _ hp i hi
  have := preL_len e1
  refine mayB_iff.2 ⟨⟨h1.1, by omega, by omega⟩, q, ?_, hn.sublist e2⟩
  exact preL_any _ _ _ _ (preL_up _ _ _ _ _ e1 e3) _ (by simp)
theorem preL_closed {l : List Term} : ∀ (f at_ : Nat) (deep : Int) (p : List Nat), preL l f at_ deep = some p → ∀ i ∈ p, ∀ t, l[i]? = some t → (1 ≤ operandsI t.kind → t.l.toNat ∈ p) ∧ (2 ≤ operandsI t.kind → t.r.toNat ∈ p) := by
  intro f at_ deep p h i hi t ht
  obtain ⟨g, q, d, e1, e2, _⟩ := preL_sub f at_ deep p h i hi
  cases g with
  | zero => simp [preL] at e1
  | succ g =>
    obtain ⟨t', p0, q0, hx, hok, h0, h1, rfl⟩ := preL_some e1
    rw [ht] at hx
    obtain rfl := Option.some.inj hx
    refine ⟨fun ho => e2.subset ?_, fun ho => e2.subset ?_⟩
    · rw [if_neg (by omega)] at h0
      have := preL_self h0
      simp [this]
    · rw [if_neg (by omega)] at h1
      have := preL_self h1
      simp [this]
/-! the reference's places are the tree's -/
theorem pos_set {d : List Int} {j a : Nat} {x : Int} (h : 0 < (d.set j x)[a]?.getD 0) : a = j ∨ 0 < d[a]?.getD 0 := by
  by_cases e : j = a
  · exact .inl e.symm
  · rw [set_ne e] at h; exact .inr h
theorem treeOp_in {S : Nat → Prop} {d d' : List Int} {i at_ : Int} (h : treeOp d i at_ = some d') (hd : ∀ j, 0 < d[j]?.getD 0 → S j) (ha : S at_.toNat) : ∀ j, 0 < d'[j]?.getD 0 → S j := by
  unfold treeOp at h
  split at h
  · cases h
  · obtain rfl := Option.some.inj h
    intro j hj
    rcases pos_set hj with rfl | hj
    · exact ha
    · exact hd j hj
theorem treeLoop_in {l : List Term} {S : Nat → Prop} (hS : ∀ i t, S i → l[i]? = some t → (1 ≤ operandsI t.kind → S t.l.toNat) ∧ (2 ≤ operandsI t.kind → S t.r.toNat)) :
    ∀ (n : Nat) (d d' : List Int), treeLoop l n d = some d' → Nn d → (∀ j, 0 < d[j]?.getD 0 → S j) → ∀ j, 0 < d'[j]?.getD 0 → S j
  | 0, d, d', h, _, hd => by obtain rfl := Option.some.inj h; exact hd
  | n + 1, d, d', h, hn, hd => by
    simp only [treeLoop] at h
    cases hs : treeStep l n d with
    | none => rw [hs] at h; cases h
    | some d1 =>
      rw [hs] at h
      simp only at h
      have key : Nn d1 ∧ ∀ j, 0 < d1[j]?.getD 0 → S j := by
        unfold treeStep at hs
        split at hs
        · obtain rfl := Option.some.inj hs; exact ⟨hn, hd⟩
        · rename_i h0
          simp only [Int.toNat_natCast] at hs h0
          cases hx : l[n]? with
          | none => rw [hx] at hs; cases hs
          | some t =>
            rw [hx] at hs
            simp only at hs
            split at hs
            · cases hs
            · have hpos : 0 < d[n]?.getD 0 := by have := hn n; omega
              have hc := hS n t (hd n hpos) hx
              unfold treeOps at hs
              split at hs
              · obtain rfl := Option.some.inj hs; exact ⟨hn, hd⟩
              · rename_i h1
                have nset : ∀ {d d' : List Int} {a : Int}, treeOp d n a = some d' → Nn d → Nn d' := by
                  intro d d' a e hn
                  unfold treeOp at e
                  split at e
                  · cases e
                  · obtain rfl := Option.some.inj e
                    simp only [Int.toNat_natCast]
                    exact Nn_set hn (by have := hn n; omega)
                cases h2 : treeOp d n t.l with
                | none => rw [h2] at hs; cases hs
                | some d2 =>
                  rw [h2] at hs
                  simp only at hs
                  have a1 := treeOp_in h2 hd (hc.1 (by omega))
                  split at hs
                  · obtain rfl := Option.some.inj hs; exact ⟨nset h2 hn, a1⟩
                  · exact ⟨nset hs (nset h2 hn), treeOp_in hs a1 (hc.2 (by omega))⟩
      exact treeLoop_in hS n d1 d' h key.1 key.2
theorem tree_in {l : List Term} {root : Int} {d : List Int} {p : List Nat} (h : treeS l root = some d) (hp : preL l (root.toNat + 1) root.toNat 1 = some p) {k : Nat} (hk : 0 < d[k]?.getD 0) : k ∈ p := by
  unfold treeS at h
  split at h
  · cases h
  · refine treeLoop_in (S := fun i => i ∈ p) (fun i t hi ht => preL_closed _ _ _ _ hp i hi t ht) _ _ _ h (Nn_start _ _) (fun j hj => ?_) k hk
    rcases pos_set hj with rfl | hj
    · exact preL_self hp
    · rw [List.getElem?_replicate] at hj
      split at hj <;> simp at hj
/-! what a tree comes to -/
theorem evalW_fuel {l : List Term} {env : List Bind} : ∀ (f at_ : Nat) (deep : Int) (p : List Nat), preL l f at_ deep = some p → ∀ g d q, preL l g at_ d = some q → ∀ a : Int, a.toNat = at_ → evalW l env f a = evalW l env g a := by
  intro f
  induction f with
  | zero => intro at_ deep p h; simp [preL] at h
  | succ f ih =>
    intro at_ deep p h g d q hq a ha
    cases g with
    | zero => simp [preL] at hq
    | succ g =>
      obtain ⟨t, p0, q0, hx, hok, h0, h1, rfl⟩ := preL_some h
      obtain ⟨t', p2, q2, hx', hok', h2, h3, rfl⟩ := preL_some hq
      rw [hx] at hx'
      obtain rfl := Option.some.inj hx'
      simp only [evalW, ha, hx]
      by_cases ho : operandsI t.kind = 0
      · rw [if_pos ho, if_pos ho]
      · rw [if_neg ho, if_neg ho]
        have hle := okT_ops hok
        have e0 : evalW l env f t.l = evalW l env g t.l := by
          rw [if_neg (by omega)] at h0 h2
          exact ih _ _ _ h0 g _ _ h2 t.l rfl
        rw [e0]
        by_cases h4 : operandsI t.kind = 2
        · have e1 : evalW l env f t.r = evalW l env g t.r := by
            rw [if_neg (by omega)] at h1 h3
            exact ih _ _ _ h1 g _ _ h3 t.r rfl
          rw [e1]
        · simp only [if_neg h4]
/-- a leaf's own form -/
def LeafT (t : Term) : Prop := operandsI t.kind = 0 ∧ fieldsB t = true ∧ t.l = -1 ∧ t.r = -1
theorem LeafT.ok {t : Term} {at_ deep : Int} (h : LeafT t) (hd : deep ≤ 24) : okT t at_ deep = true :=
  okT_of (by rw [h.1]; decide) h.2.1 hd (fun _ => h.2.2.1) (fun hk => by rw [h.1] at hk; exact absurd (by decide) hk) (fun _ => h.2.2.2) (fun hk => by rw [h.1] at hk; exact absurd (by decide) hk)
/-- l' is l with some subtrees put as leaves -/
def PutR (l l' : List Term) (e1 e2 : List Bind) : Prop := ∀ i t, l[i]? = some t → ∃ t', l'[i]? = some t' ∧
  ((t' = t ∧ (operandsI t.kind = 0 → leafV t e1 = leafV t e2)) ∨ (LeafT t' ∧ ∀ f p d, preL l f i d = some p → ∀ a : Int, a.toNat = i → evalW l e1 f a = leafV t' e2))
theorem put_pre {l l' : List Term} {e1 e2 : List Bind} (hR : PutR l l' e1 e2) : ∀ (f at_ : Nat) (deep : Int) (p : List Nat), preL l f at_ deep = some p → ∃ p', preL l' f at_ deep = some p' ∧ p'.Sublist p ∧ ∀ a : Int, a.toNat = at_ → evalW l' e2 f a = evalW l e1 f a := by
  intro f
  induction f with
  | zero => intro at_ deep p h; simp [preL] at h
  | succ f ih =>
    intro at_ deep p h
    have hh := h
    obtain ⟨t, p0, q0, hx, hok, h0, h1, rfl⟩ := preL_some h
    obtain ⟨t', hx', hc⟩ := hR at_ t hx
    have hle := okT_ops hok
    rcases hc with ⟨rfl, hleaf⟩ | ⟨hL, hev⟩
    · have c0 : ∃ p0', (if operandsI t'.kind < 1 then some [] else preL l' f t'.l.toNat (deep + 1)) = some p0' ∧ p0'.Sublist p0 ∧ (1 ≤ operandsI t'.kind → evalW l' e2 f t'.l = evalW l e1 f t'.l) := by
        by_cases ho : operandsI t'.kind < 1
        · rw [if_pos ho] at h0 ⊢
          obtain rfl := Option.some.inj h0
          exact ⟨[], rfl, List.Sublist.refl _, fun h => by omega⟩
        · rw [if_neg ho] at h0 ⊢
          obtain ⟨p', e1', e2', e3⟩ := ih _ _ _ h0
          exact ⟨p', e1', e2', fun _ => e3 _ rfl⟩
      have c1 : ∃ q0', (if operandsI t'.kind < 2 then some [] else preL l' f t'.r.toNat (deep + 1)) = some q0' ∧ q0'.Sublist q0 ∧ (2 ≤ operandsI t'.kind → evalW l' e2 f t'.r = evalW l e1 f t'.r) := by
        by_cases ho : operandsI t'.kind < 2
        · rw [if_pos ho] at h1 ⊢
          obtain rfl := Option.some.inj h1
          exact ⟨[], rfl, List.Sublist.refl _, fun h => by omega⟩
        · rw [if_neg ho] at h1 ⊢
          obtain ⟨p', e1', e2', e3⟩ := ih _ _ _ h1
          exact ⟨p', e1', e2', fun _ => e3 _ rfl⟩
      obtain ⟨p0', a1, a2, a3⟩ := c0
      obtain ⟨q0', b1, b2, b3⟩ := c1
      refine ⟨at_ :: (p0' ++ q0'), preL_mk hx' hok a1 b1, (a2.append b2).cons_cons _, fun a ha => ?_⟩
      simp only [evalW, ha, hx, hx']
      by_cases ho : operandsI t'.kind = 0
      · rw [if_pos ho, if_pos ho]; exact (hleaf ho).symm
      · rw [if_neg ho, if_neg ho, a3 (by omega)]
        by_cases h4 : operandsI t'.kind = 2
        · rw [b3 (by omega)]
        · simp only [if_neg h4]
    · refine ⟨[at_], preL_mk (p0 := []) (q0 := []) hx' (hL.ok hle.2.2.1) (by rw [if_pos (by rw [hL.1]; decide)]) (by rw [if_pos (by rw [hL.1]; decide)]), ?_, fun a ha => ?_⟩
      · exact (List.nil_sublist _).cons_cons _
      · rw [hev _ _ _ hh a ha]
        have hxa : l'[a.toNat]? = some t' := by rw [ha]; exact hx'
        rw [evalW_leaf hxa hL.1]
theorem put_may {l l' : List Term} {e1 e2 : List Bind} (hR : PutR l l' e1 e2) (hlen : l'.length = l.length) {root : Int} (h : mayB l root = true) : mayB l' root = true ∧ evalS l' root e2 = evalS l root e1 := by
  obtain ⟨h1, p, hp, hn⟩ := mayB_iff.1 h
  obtain ⟨p', e1', e2', e3⟩ := put_pre hR _ _ _ _ hp
  have hm : mayB l' root = true := mayB_iff.2 ⟨by rw [hlen]; exact h1, p', e1', hn.sublist e2'⟩
  refine ⟨hm, ?_⟩
  unfold evalS
  rw [if_pos hm, if_pos h]
  exact e3 root rfl
/-- an error inside is an error of the whole -/
theorem err_in {l : List Term} {env : List Bind} : ∀ (f at_ : Nat) (deep : Int) (p : List Nat), preL l f at_ deep = some p → ∀ i ∈ p, ¬ (evalW l env (i + 1) i).2 = 0 → ∀ a : Int, a.toNat = at_ → ¬ (evalW l env f a).2 = 0 := by
  intro f
  induction f with
  | zero => intro at_ deep p h; simp [preL] at h
  | succ f ih =>
    intro at_ deep p h i hi he a ha
    have hh := h
    obtain ⟨t, p0, q0, hx, hok, h0, h1, rfl⟩ := preL_some h
    rcases List.mem_cons.1 hi with rfl | hi
    · rw [evalW_fuel _ _ _ _ hh (i + 1) deep _ (preL_any _ _ _ _ hh _ (by omega)) a ha]
      have : a.toNat = ((i : Int)).toNat := by rw [ha]; simp
      have e : evalW l env (i + 1) a = evalW l env (i + 1) (i : Int) := by simp only [evalW, this]
      rw [e]; exact he
    · have hle := okT_ops hok
      simp only [evalW, ha, hx]
      rcases List.mem_append.1 hi with hi | hi
      · split at h0
        · simp only [Option.some.injEq] at h0; subst h0; cases hi
        · have := ih _ _ _ h0 i hi he t.l rfl
          rw [if_neg (by omega), if_pos this]; exact this
      · split at h1
        · simp only [Option.some.injEq] at h1; subst h1; cases hi
        · have hr := ih _ _ _ h1 i hi he t.r rfl
          have h2 : operandsI t.kind = 2 := by have := operandsI_le t.kind; omega
          rw [if_neg (by omega)]
          by_cases h3 : (evalW l env f t.l).2 = 0
          · rw [if_neg (by simpa using h3), if_pos h2, if_pos hr]; exact hr
          · rw [if_pos h3]; exact h3
end Go.Sx

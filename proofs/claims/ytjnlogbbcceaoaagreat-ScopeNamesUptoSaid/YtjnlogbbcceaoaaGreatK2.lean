import Derived.Test.YtjnlogbbcceaoaaGreatK1
import Derived.Test.YtjnlogbbcceaoaaGreatRows
import Derived.ProofKit
import Derived.Deep.Slices
import Derived.KernelRfl
import Derived.Sort.Walk0
import Derived.Lib.ItoaNum
import Derived.Lib.IndexMore
set_option linter.all false
set_option maxRecDepth 100000
namespace Go.Sx
open Go
abbrev Str := List UInt8
theorem drop_of {α : Type} {l : List α} {n : Nat} {x : α} (h : l[n]? = some x) : l.drop n = x :: l.drop (n + 1) := by
  obtain ⟨hlt, rfl⟩ := List.getElem?_eq_some_iff.1 h
  exact List.drop_eq_getElem_cons hlt
theorem toNat_succ {k : Int} (h : 0 ≤ k) : (k + 1).toNat = k.toNat + 1 := by omega
theorem drop_end {α : Type} {l : List α} {k : Int} (h : ¬ k < l.length) : l.drop k.toNat = [] := List.drop_eq_nil_of_le (by omega)
theorem drop_at {α : Type} {l : List α} {k : Int} {x : α} (hk : 0 ≤ k) (h : l[k.toNat]? = some x) : l.drop k.toNat = x :: l.drop (k + 1).toNat := by
  rw [toNat_succ hk]; exact drop_of h
def letterB (c : UInt8) : Bool := decide ((97 : Int) ≤ c.toNat) && decide ((c.toNat : Int) ≤ 122)
def digitB (c : UInt8) : Bool := decide ((48 : Int) ≤ c.toNat) && decide ((c.toNat : Int) ≤ 57)
def nameC (c : UInt8) : Bool := letterB c || digitB c
def kw1 (s : Str) : Bool := (decide (s = [97, 110, 100]) || (decide (s = [97, 115]) || (decide (s = [97, 116]) || (decide (s = [98, 111, 111, 108]) || (decide (s = [99, 97, 108, 108]) || (decide (s = [99, 104, 97, 110]) || (decide (s = [100, 114, 111, 112]) || (decide (s = [101, 108, 115, 101]) || (decide (s = [101, 109, 112, 116, 121]) || (decide (s = [101, 110, 100]) || (decide (s = [102, 97, 105, 108]) || (decide (s = [102, 97, 108, 115, 101]) || decide (s = [102, 114, 111, 109])))))))))))))
def kw2 (s : Str) : Bool := (decide (s = [104, 101, 97, 114]) || (decide (s = [105, 102]) || (decide (s = [105, 110, 116]) || (decide (s = [106, 111, 105, 110]) || (decide (s = [108, 101, 110]) || (decide (s = [108, 101, 116]) || (decide (s = [108, 105, 115, 116]) || (decide (s = [108, 111, 99, 97, 108]) || (decide (s = [108, 111, 115, 116]) || (decide (s = [109, 111, 100]) || (decide (s = [110, 111, 116]) || (decide (s = [111, 112, 101, 110]) || decide (s = [111, 114])))))))))))))
def kw3 (s : Str) : Bool := (decide (s = [112, 114, 105, 110, 116]) || (decide (s = [112, 114, 111, 99]) || (decide (s = [112, 114, 111, 116, 111, 99, 111, 108]) || (decide (s = [112, 117, 115, 104]) || (decide (s = [114, 111, 108, 101, 115]) || (decide (s = [115, 97, 121]) || (decide (s = [115, 112, 97, 119, 110]) || (decide (s = [115, 116, 111, 112]) || (decide (s = [116, 101, 120, 116]) || (decide (s = [116, 111]) || (decide (s = [116, 114, 117, 101]) || (decide (s = [117, 110, 105, 116]) || decide (s = [119, 105, 116, 104])))))))))))))
def rkw1 (s : Str) : Bool := (decide (s = [97, 110, 100]) || (decide (s = [97, 115]) || (decide (s = [97, 116]) || (decide (s = [98, 111, 111, 108]) || (decide (s = [99, 97, 108, 108]) || (decide (s = [99, 104, 97, 110]) || (decide (s = [100, 114, 111, 112]) || (decide (s = [101, 108, 115, 101]) || (decide (s = [101, 109, 112, 116, 121]) || (decide (s = [101, 110, 100]) || (decide (s = [102, 97, 105, 108]) || (decide (s = [102, 97, 108, 115, 101]) || (decide (s = [102, 114, 111, 109]) || (decide (s = [104, 101, 97, 114]) || (decide (s = [105, 102]) || (decide (s = [105, 110, 116]) || (decide (s = [106, 111, 105, 110]) || (decide (s = [108, 101, 110]) || (decide (s = [108, 101, 116]) || decide (s = [108, 105, 115, 116]))))))))))))))))))))
def rkw2 (s : Str) : Bool := (decide (s = [108, 111, 99, 97, 108]) || (decide (s = [108, 111, 115, 116]) || (decide (s = [109, 111, 100]) || (decide (s = [110, 111, 116]) || (decide (s = [111, 112, 101, 110]) || (decide (s = [111, 114]) || (decide (s = [112, 114, 105, 110, 116]) || (decide (s = [112, 114, 111, 99]) || (decide (s = [112, 114, 111, 116, 111, 99, 111, 108]) || (decide (s = [112, 117, 115, 104]) || (decide (s = [114, 111, 108, 101, 115]) || (decide (s = [115, 97, 121]) || (decide (s = [115, 112, 97, 119, 110]) || (decide (s = [115, 116, 111, 112]) || (decide (s = [116, 101, 120, 116]) || (decide (s = [116, 111]) || (decide (s = [116, 114, 117, 101]) || (decide (s = [117, 110, 105, 116]) || decide (s = [119, 105, 116, 104])))))))))))))))))))
def keywordB (s : Str) : Bool := kw1 s || (kw2 s || kw3 s)
theorem rkw_eq (s : Str) : (rkw1 s || rkw2 s) = keywordB s := by
  simp only [rkw1, rkw2, keywordB, kw1, kw2, kw3, Bool.or_assoc]
def nameMay (s : Str) : Bool :=
  if (s.length : Int) < 1 then false else if (12 : Int) < s.length then false else if letterB (s.headD 0) = false then false else if keywordB s then false
  else (s.drop 1).all nameC
theorem headD_of {s : Str} {c : UInt8} (h : s[(0 : Int).toNat]? = some c) : s.headD 0 = c := by
  cases s with
  | nil => simp at h
  | cons a s => simpa using h
structure Typing where
  name : Str
  kind : Int
  at_ : Int
def Typing.cells (t : Typing) : List Value := [gs t.name, .int .i64 t.kind, .int .i64 t.at_]
structure Term where
  kind : Int
  name : Str
  n : Int
  text : Str
  l : Int
  r : Int
def Term.cells (t : Term) : List Value := [.int .i64 t.kind, gs t.name, .int .i64 t.n, gs t.text, .int .i64 t.l, .int .i64 t.r]
def i64ok (n : Int) : Prop := -9223372036854775808 ≤ n ∧ n ≤ 9223372036854775807
def Typing.ok (_ : Hp) (t : Typing) : Prop := t.name.length ≤ 9223372036854775807
def Term.ok (_ : Hp) (t : Term) : Prop := (t.name.length ≤ 9223372036854775807 ∧ t.text.length ≤ 9223372036854775807) ∧ i64ok t.n
theorem flatMap_get {α : Type} {enc : α → List Value} {k : Nat} : ∀ {l : List α}, (∀ x ∈ l, (enc x).length = k) → ∀ (i : Nat) (x : α), l[i]? = some x → ∀ j u, (enc x)[j]? = some u → (l.flatMap enc)[i * k + j]? = some u
  | [], _, i, x, hx, _, _, _ => by simp at hx
  | y :: l, hk, 0, x, hx, j, u, hu => by
    simp only [List.getElem?_cons_zero, Option.some.injEq] at hx
    subst hx
    have : j < (enc y).length := (List.getElem?_eq_some_iff.1 hu).1
    simp only [List.flatMap_cons, Nat.zero_mul, Nat.zero_add]
    rw [List.getElem?_append_left this]; exact hu
  | y :: l, hk, i + 1, x, hx, j, u, hu => by
    have h1 := hk y (by simp)
    simp only [List.flatMap_cons]
    rw [List.getElem?_append_right (by rw [h1, Nat.succ_mul]; omega), h1, show (i + 1) * k + j - k = i * k + j by rw [Nat.succ_mul]; omega]
    exact flatMap_get (fun z hz => hk z (List.mem_cons_of_mem _ hz)) i x (by simpa using hx) j u hu
theorem RdSl.blk {α : Type} {H : Hp} {enc : α → List Value} {k b cap : Nat} {cs : List Value} {l : List α} (h : ∀ o v, cs[o]? = some v → H b o = some v) (hk : ∀ x ∈ l, (enc x).length = k) (hc : cs = l.flatMap enc)
    (hm : l.length ≤ 9223372036854775807) (hcap : l.length ≤ cap := by first | exact Nat.le_refl _ | omega | (simp; done) | (simp; omega)) : RdSl H k enc (.slice (some ⟨b, 0, none⟩) l.length cap) l := by
  subst hc
  refine ⟨⟨_, _, rfl⟩, hm, fun _ => ⟨_, rfl⟩, fun i x hx j u hu => ?_, fun a n c e => by injection e with _ _ e; omega⟩
  have := flatMap_get hk i x hx j u hu
  simp only [off, Nat.zero_add]
  exact h _ _ this
theorem RdSl.nil {α : Type} {H : Hp} {enc : α → List Value} {k : Nat} : RdSl H k enc (.slice none 0 0) [] :=
  ⟨⟨_, _, rfl⟩, by simp, fun h => absurd rfl h, fun i x hx => by simp at hx, fun a n c _ => by simp⟩
end Go.Sx
namespace Go.Sx
open Go
theorem nameMay_F {s : Str} (h : decide ((s.length : Int) < 1) = true ∨ decide ((12 : Int) < s.length) = true ∨ (∃ c, s[(0 : Int).toNat]? = some c ∧ (!letterB c) = true) ∨ keywordB s = true) : nameMay s = false := by
  unfold nameMay
  rcases h with h | h | ⟨c, hc, h⟩ | h
  · rw [if_pos (of_decide_eq_true h)]
  · split
    · rfl
    · rw [if_pos (of_decide_eq_true h)]
  · rw [headD_of hc]
    split
    · rfl
    split
    · rfl
    rw [if_pos (by simpa using h)]
  · split
    · rfl
    split
    · rfl
    split
    · rfl
    first | rfl | rw [if_pos h]
theorem nameMay_T {s : Str} {c : UInt8} (h1 : decide ((s.length : Int) < 1) = false) (h2 : decide ((12 : Int) < s.length) = false) (hc : s[(0 : Int).toNat]? = some c) (h3 : (!letterB c) = false) (h4 : keywordB s = false) : nameMay s = (s.drop 1).all nameC := by
  unfold nameMay
  rw [if_neg (of_decide_eq_false h1), if_neg (of_decide_eq_false h2), headD_of hc, if_neg (by simpa using h3), if_neg (by simp [h4])]
theorem nameMay_step {s : Str} {k : Int} {c : UInt8} (h : (s.drop 1).all nameC = (s.drop k.toNat).all nameC) (hk : 0 ≤ k) (hc : s[k.toNat]? = some c) (hx : (!letterB c) = false ∨ (!digitB c) = false) : (s.drop 1).all nameC = (s.drop (k + 1).toNat).all nameC := by
  rw [h, drop_at hk hc, List.all_cons]
  have : nameC c = true := by unfold nameC; rcases hx with hx | hx <;> simp at hx <;> simp [hx]
  simp [this]
theorem nameMay_end {s : Str} {k : Int} (hn : nameMay s = (s.drop 1).all nameC) (h : (s.drop 1).all nameC = (s.drop k.toNat).all nameC) (hk : ¬ k < s.length) : nameMay s = true := by
  rw [hn, h, drop_end hk]; rfl
theorem nameMay_bad {s : Str} {k : Int} {c : UInt8} (hn : nameMay s = (s.drop 1).all nameC) (h : (s.drop 1).all nameC = (s.drop k.toNat).all nameC) (hk : 0 ≤ k) (hc : s[k.toNat]? = some c) (h1 : (!letterB c) = true) (h2 : (!digitB c) = true) : nameMay s = false := by
  rw [hn, h, drop_at hk hc, List.all_cons]
  have : nameC c = false := by unfold nameC; simp at h1 h2; simp [h1, h2]
  simp [this]
end Go.Sx
namespace Go.Sx
open Go
def operandsI (k : Int) : Int := if k < 0 ∨ 19 < k then -1 else if k ≤ 5 then 0 else if k = 15 ∨ k = 16 then 1 else 2
def fieldsB (t : Term) : Bool :=
  if t.kind = 0 then nameMay t.name && (decide (t.n = 0) && decide (t.text = []))
  else if t.kind = 1 then decide (t.name = []) && decide (t.text = [])
  else if t.kind = 2 then decide (t.name = []) && (decide (t.text = []) && (decide (t.n = 0) || decide (t.n = 1)))
  else if t.kind = 3 then decide (t.name = []) && (decide (t.n = 0) && decide ((t.text.length : Int) ≤ 24))
  else decide (t.name = []) && (decide (t.n = 0) && decide (t.text = []))
def opW (k at_ : Int) (rec : Int → List Bool → Bool × List Bool) (i to : Int) (met : List Bool) : Bool × List Bool :=
  if k ≤ i then (decide (to = -1), met) else if to < 0 ∨ at_ ≤ to then (false, met) else rec to met
def mayW (l : List Term) : Nat → Int → Int → List Bool → Bool × List Bool
  | 0, _, _, met => (false, met)
  | f + 1, at_, deep, met =>
    match l[at_.toNat]? with
    | none => (false, met)
    | some t =>
      if met[at_.toNat]?.getD false = true ∨ 24 < deep ∨ operandsI t.kind < 0 ∨ fieldsB t = false then (false, met)
      else
        let a := opW (operandsI t.kind) at_ (fun to m => mayW l f to (deep + 1) m) 0 t.l (met.set at_.toNat true)
        if a.1 = false then (false, a.2) else opW (operandsI t.kind) at_ (fun to m => mayW l f to (deep + 1) m) 1 t.r a.2
theorem mayW_F {l : List Term} {f : Nat} {at_ deep : Int} {met : List Bool} {t : Term} (hx : l[at_.toNat]? = some t) (h : met[at_.toNat]?.getD false = true ∨ 24 < deep ∨ operandsI t.kind < 0 ∨ fieldsB t = false) :
    mayW l (f + 1) at_ deep met = (false, met) := by
  simp only [mayW, hx]; rw [if_pos h]
def MayG (deep : Int) (met : List Bool) (at_ : Int) (t : Term) : Prop := met[at_.toNat]?.getD false = false ∧ ¬ 24 < deep ∧ ¬ operandsI t.kind < 0 ∧ fieldsB t = true
theorem mayW_0 {l : List Term} {f : Nat} {at_ deep : Int} {met m : List Bool} {t : Term} (hx : l[at_.toNat]? = some t) (h : MayG deep met at_ t)
    (h0 : opW (operandsI t.kind) at_ (fun to m => mayW l f to (deep + 1) m) 0 t.l (met.set at_.toNat true) = (false, m)) : mayW l (f + 1) at_ deep met = (false, m) := by
  obtain ⟨h1, h2, h3, h4⟩ := h
  simp only [mayW, hx]; rw [if_neg (by simp [h1, h2, h3, h4]), h0]; rfl
theorem mayW_1 {l : List Term} {f : Nat} {at_ deep : Int} {met m : List Bool} {t : Term} {r : Bool × List Bool} (hx : l[at_.toNat]? = some t) (h : MayG deep met at_ t)
    (h0 : opW (operandsI t.kind) at_ (fun to m => mayW l f to (deep + 1) m) 0 t.l (met.set at_.toNat true) = (true, m))
    (h5 : opW (operandsI t.kind) at_ (fun to m => mayW l f to (deep + 1) m) 1 t.r m = r) : mayW l (f + 1) at_ deep met = r := by
  obtain ⟨h1, h2, h3, h4⟩ := h
  simp only [mayW, hx]; rw [if_neg (by simp [h1, h2, h3, h4]), h0]; simpa using h5
theorem opW_leF {k at_ : Int} {rec : Int → List Bool → Bool × List Bool} {i to : Int} {met : List Bool} (h : k ≤ i) (hb : ¬ to = -1) : opW k at_ rec i to met = (false, met) := by
  unfold opW; rw [if_pos h]; simp [hb]
theorem opW_leT {k at_ : Int} {rec : Int → List Bool → Bool × List Bool} {i to : Int} {met : List Bool} (h : k ≤ i) (hb : to = -1) : opW k at_ rec i to met = (true, met) := by
  unfold opW; rw [if_pos h]; simp [hb]
theorem opW_r {k at_ : Int} {rec : Int → List Bool → Bool × List Bool} {i to : Int} {met : List Bool} {r : Bool × List Bool} (h : ¬ k ≤ i) (h2 : decide (to < 0) = false) (h3 : decide (at_ ≤ to) = false) (e : rec to met = r) : opW k at_ rec i to met = r := by
  unfold opW; rw [if_neg h, if_neg (by simp at h2 h3; omega)]; exact e
theorem opW_b1 {k at_ : Int} {rec : Int → List Bool → Bool × List Bool} {i to : Int} {met : List Bool} (h : ¬ k ≤ i) (h2 : decide (to < 0) = true) : opW k at_ rec i to met = (false, met) := by
  unfold opW; rw [if_neg h, if_pos (.inl (of_decide_eq_true h2))]
theorem opW_b2 {k at_ : Int} {rec : Int → List Bool → Bool × List Bool} {i to : Int} {met : List Bool} (h : ¬ k ≤ i) (h2 : decide (at_ ≤ to) = true) : opW k at_ rec i to met = (false, met) := by
  unfold opW; rw [if_neg h, if_pos (.inr (of_decide_eq_true h2))]
theorem opW_le {k at_ : Int} {rec : Int → List Bool → Bool × List Bool} {i to : Int} {met : List Bool} (h : k ≤ i) : opW k at_ rec i to met = (decide (to = -1), met) := by
  unfold opW; rw [if_pos h]
theorem opW_bad {k at_ : Int} {rec : Int → List Bool → Bool × List Bool} {i to : Int} {met : List Bool} (h : ¬ k ≤ i) (h2 : to < 0 ∨ at_ ≤ to) : opW k at_ rec i to met = (false, met) := by
  unfold opW; rw [if_neg h, if_pos h2]
theorem opW_rec {k at_ : Int} {rec : Int → List Bool → Bool × List Bool} {i to : Int} {met : List Bool} (h : ¬ k ≤ i) (h2 : ¬ to < 0) (h3 : ¬ at_ ≤ to) : opW k at_ rec i to met = rec to met := by
  unfold opW; rw [if_neg h, if_neg (by omega)]
theorem bools_get {met : List Bool} {i : Nat} (h : i < met.length) : (met.map Value.bool)[0 + i * 1]? = some (.bool (met[i]?.getD false)) := by
  simp [List.getElem?_eq_getElem h]
theorem bools_set (met : List Bool) (i : Nat) (b : Bool) : (met.map Value.bool).set (0 + i * 1) (.bool b) = (met.set i b).map Value.bool := by
  simp [List.map_set]
theorem reps_false (n : Nat) : reps n [Value.bool false] = (List.replicate n false).map Value.bool := by
  induction n with
  | zero => rfl
  | succ n ih => simp [reps, ih, List.replicate_succ]
def mayB (l : List Term) (root : Int) : Bool :=
  if (160 : Int) < l.length then false else if root < 0 then false else if (l.length : Int) ≤ root then false else (mayW l (root.toNat + 1) root 1 (List.replicate l.length false)).1
theorem mayB_F1 {l : List Term} {root : Int} (h : decide ((160 : Int) < l.length) = true) : mayB l root = false := by unfold mayB; rw [if_pos (of_decide_eq_true h)]
theorem mayB_F2 {l : List Term} {root : Int} (h : decide (root < 0) = true) : mayB l root = false := by
  unfold mayB; split
  · rfl
  · rw [if_pos (of_decide_eq_true h)]
theorem mayB_F3 {l : List Term} {root : Int} (h : (l.length : Int) ≤ root) : mayB l root = false := by
  unfold mayB; split
  · rfl
  · split
    · rfl
    · first | rfl | rw [if_pos h]
theorem mayB_in {l : List Term} {root : Int} (h1 : decide ((160 : Int) < l.length) = false) (h2 : decide (root < 0) = false) (h3 : ¬ (l.length : Int) ≤ root) : (l.length : Int) ≤ 160 ∧ 0 ≤ root ∧ root < l.length := by
  have := of_decide_eq_false h1; have := of_decide_eq_false h2; omega
theorem mayB_T {l : List Term} {root : Int} (h : (l.length : Int) ≤ 160 ∧ 0 ≤ root ∧ root < l.length) : mayB l root = (mayW l (root.toNat + 1) root 1 (List.replicate l.length false)).1 := by
  unfold mayB; rw [if_neg (by omega), if_neg (by omega), if_neg (by omega)]
end Go.Sx
namespace Go.Sx
open Go
def askW (k : Int) : Int × Int × Int :=
  if 6 ≤ k ∧ k ≤ 10 then (1, 1, 1) else if k = 12 then (1, 1, 2) else if k = 13 ∨ k = 14 then (2, 2, 2) else if k = 15 then (2, -1, 2) else if k = 16 then (-2, -1, 1)
  else if k = 17 then (4, 1, 1) else if k = 18 then (4, 1, 4) else if k = 19 then (3, 3, 3) else if k = 11 then (-2, -2, 2) else if k = 1 then (-1, -1, 1)
  else if k = 2 then (-1, -1, 2) else if k = 3 then (-1, -1, 3) else if k = 4 then (-1, -1, 4) else (-1, -1, 0)
def kFin1 (w g : Int) : Bool := decide (0 ≤ w) && !decide (g = w)
def kFin2 (k ga gb : Int) : Bool := (decide (k = 11) && (!decide (ga = gb) || decide (ga = 5))) || (decide (k = 16) && (!decide (ga = 3) && !decide (ga = 4)))
def kFinB (k ga gb : Int) : Int × Int := if kFin2 k ga gb then (0, 502) else ((askW k).2.2, 0)
def kFin (k ga gb : Int) : Int × Int := if kFin1 (askW k).1 ga then (0, 502) else if kFin1 (askW k).2.1 gb then (0, 502) else kFinB k ga gb
def Tr (l : List Term) : Nat → Int → Prop
  | 0, _ => False
  | f + 1, at_ => 0 ≤ at_ ∧ ∃ t, l[at_.toNat]? = some t ∧ 0 ≤ operandsI t.kind ∧ fieldsB t = true ∧ (1 ≤ operandsI t.kind → Tr l f t.l) ∧ (operandsI t.kind < 1 → t.l = -1) ∧ (2 ≤ operandsI t.kind → Tr l f t.r) ∧ (operandsI t.kind < 2 → t.r = -1)
theorem kind_cases {k : Int} (h0 : 0 ≤ operandsI k) : k = 0 ∨ k = 1 ∨ k = 2 ∨ k = 3 ∨ k = 4 ∨ k = 5 ∨ k = 6 ∨ k = 7 ∨ k = 8 ∨ k = 9 ∨ k = 10 ∨ k = 11 ∨ k = 12 ∨ k = 13 ∨ k = 14 ∨ k = 15 ∨ k = 16 ∨ k = 17 ∨ k = 18 ∨ k = 19 := by
  unfold operandsI at h0
  split at h0
  · omega
  · omega
def mx1 (k a b : Int) : Bool := decide (k ≤ 10) && (decide (a = 1) && decide (b = 1))
def mx2 (k a b : Int) : Bool := (decide (k = 11) && (decide (a = b) && !decide (a = 5))) || (decide (k = 12) && (decide (a = 1) && decide (b = 1)))
def mx3 (k a b : Int) : Bool := ((decide (k = 13) || decide (k = 14)) && (decide (a = 2) && decide (b = 2))) || (decide (k = 15) && decide (a = 2))
def mx4 (k a b : Int) : Bool := (decide (k = 16) && (decide (a = 3) || decide (a = 4))) || (decide (k = 17) && (decide (a = 4) && decide (b = 1)))
def mx5 (k a b : Int) : Bool := decide (k = 18) && (decide (a = 4) && decide (b = 1))
def mx6 (k a b : Int) : Bool := decide (k = 19) && (decide (a = 3) && decide (b = 3))
def mixedI (k a b : Int) : Int × Int := if mx1 k a b then (1, 0) else if mx2 k a b then (2, 0) else if mx3 k a b then (2, 0) else if mx4 k a b then (1, 0) else if mx5 k a b then (4, 0) else if mx6 k a b then (3, 0) else (0, 502)
end Go.Sx
namespace Go.Sx
open Go
theorem mayW_Tr {l : List Term} : ∀ (f : Nat) (at_ deep : Int) (met : List Bool), 0 ≤ at_ → (mayW l f at_ deep met).1 = true → Tr l f at_ := by
  intro f
  induction f with
  | zero => intro at_ deep met _ h; simp [mayW] at h
  | succ f ih =>
    intro at_ deep met h0 h
    cases hx : l[at_.toNat]? with
    | none => simp [mayW, hx] at h
    | some t =>
      by_cases hg : met[at_.toNat]?.getD false = true ∨ 24 < deep ∨ operandsI t.kind < 0 ∨ fieldsB t = false
      · rw [mayW_F hx hg] at h; cases h
      · have hgg : MayG deep met at_ t := by
          refine ⟨?_, ?_, ?_, ?_⟩
          · cases hb : met[at_.toNat]?.getD false with
            | false => rfl
            | true => exact absurd (.inl hb) hg
          · intro h1; exact hg (.inr (.inl h1))
          · intro h1; exact hg (.inr (.inr (.inl h1)))
          · cases hb : fieldsB t with
            | true => rfl
            | false => exact absurd (.inr (.inr (.inr hb))) hg
        generalize h00 : opW (operandsI t.kind) at_ (fun to m => mayW l f to (deep + 1) m) 0 t.l (met.set at_.toNat true) = r0
        obtain ⟨b0, m0⟩ := r0
        cases b0 with
        | false => rw [mayW_0 hx hgg h00] at h; cases h
        | true =>
          generalize h11 : opW (operandsI t.kind) at_ (fun to m => mayW l f to (deep + 1) m) 1 t.r m0 = r1
          rw [mayW_1 hx hgg h00 h11] at h
          have key : ∀ (i to : Int) (m m' : List Bool), opW (operandsI t.kind) at_ (fun to m => mayW l f to (deep + 1) m) i to m = (true, m') → (i < operandsI t.kind → Tr l f to) ∧ (operandsI t.kind ≤ i → to = -1) := by
            intro i to m m' he
            refine ⟨fun hi => ?_, fun hi => ?_⟩
            · by_cases hb : to < 0 ∨ at_ ≤ to
              · rw [opW_bad (by omega) hb] at he; cases he
              · rw [opW_rec (by omega) (by omega) (by omega)] at he
                exact ih to (deep + 1) m (by omega) (by rw [he])
            · rw [opW_le hi] at he
              simpa using congrArg Prod.fst he
          have k0 := key 0 t.l _ _ h00
          have k1 := key 1 t.r _ r1.2 (by rw [h11]; cases r1; simp at h; simp [h])
          exact ⟨h0, t, hx, by have := hgg.2.2.1; omega, hgg.2.2.2, fun h => k0.1 (by omega), fun h => k0.2 (by omega), fun h => k1.1 (by omega), fun h => k1.2 (by omega)⟩
theorem mayB_Tr {l : List Term} {root : Int} (h : mayB l root = true) : Tr l (root.toNat + 1) root := by
  unfold mayB at h
  split at h
  · cases h
  · split at h
    · cases h
    · split at h
      · cases h
      · exact mayW_Tr _ _ _ _ (by omega) h
end Go.Sx
namespace Go.Sx
open Go
section
variable {l : List Term} {env : List Typing} {f : Nat} {at_ : Int} {t : Term} (hx : l[at_.toNat]? = some t)
include hx
end
def okT (t : Term) (at_ deep : Int) : Bool :=
  (decide (0 ≤ operandsI t.kind) && fieldsB t) && ((decide (deep ≤ 24)) &&
  ((if operandsI t.kind < 1 then decide (t.l = -1) else decide (0 ≤ t.l) && decide (t.l < at_)) && (if operandsI t.kind < 2 then decide (t.r = -1) else decide (0 ≤ t.r) && decide (t.r < at_))))
def preL (l : List Term) : Nat → Nat → Int → Option (List Nat)
  | 0, _, _ => none
  | f + 1, at_, deep => match l[at_]? with
    | none => none
    | some t => if okT t at_ deep = false then none else
      match (if operandsI t.kind < 1 then some [] else preL l f t.l.toNat (deep + 1)) with
      | none => none
      | some p => match (if operandsI t.kind < 2 then some [] else preL l f t.r.toNat (deep + 1)) with
        | none => none
        | some q => some (at_ :: (p ++ q))
theorem okT_of {t : Term} {at_ deep : Int} (h1 : 0 ≤ operandsI t.kind) (h2 : fieldsB t = true) (h3 : deep ≤ 24) (h4 : operandsI t.kind < 1 → t.l = -1) (h5 : ¬ operandsI t.kind < 1 → 0 ≤ t.l ∧ t.l < at_)
    (h6 : operandsI t.kind < 2 → t.r = -1) (h7 : ¬ operandsI t.kind < 2 → 0 ≤ t.r ∧ t.r < at_) : okT t at_ deep = true := by
  unfold okT
  simp only [Bool.and_eq_true, decide_eq_true_eq]
  refine ⟨⟨h1, h2⟩, h3, ?_, ?_⟩
  · split
    · rename_i h; simpa using h4 h
    · rename_i h; simpa using h5 h
  · split
    · rename_i h; simpa using h6 h
    · rename_i h; simpa using h7 h
def cc (l : List Term) (a : Nat) (v : Int) (y : Nat) : Nat := match preL l (a + 1) a v with
  | some p => p.count y
  | none => 0
def cnt (l : List Term) : Nat → List Int → Nat → Nat
  | 0, _, _ => 0
  | n + 1, d, y => cnt l n d y + (if d[n]?.getD 0 = 0 then 0 else cc l n (d[n]?.getD 0) y)
def gd (l : List Term) : Nat → List Int → Prop
  | 0, _ => True
  | n + 1, d => gd l n d ∧ (d[n]?.getD 0 = 0 ∨ (preL l (n + 1) n (d[n]?.getD 0)).isSome = true)
end Go.Sx
namespace Go.Sx
open Go
theorem fin1 {k a : Int} (h : operandsI k = 1) : kFin k a 0 = mixedI k a 0 := by
  have h0 : 0 ≤ operandsI k := by omega
  revert h
  rcases kind_cases h0 with rfl | rfl | rfl | rfl | rfl | rfl | rfl | rfl | rfl | rfl | rfl | rfl | rfl | rfl | rfl | rfl | rfl | rfl | rfl | rfl <;> intro h <;> first | (exact absurd h (by decide)) | skip
  all_goals
    simp only [kFin, kFin1, kFinB, kFin2, askW, mixedI, mx1, mx2, mx3, mx4, mx5, mx6]
    simp
  all_goals
    (repeat' split) <;> simp_all
end Go.Sx
namespace Go.Sx
open Go
end Go.Sx
namespace Go.Sx
open Go
def I64.cells (n : Int) : List Value := [.int .i64 n]
def Str.cells (s : Str) : List Value := [gs s]
structure Val where
  k : Int
  n : Int
  s : Str
  l : List Int
def Val.cells (x : Val) (lv : Value) : List Value := [.int .i64 x.k, .int .i64 x.n, gs x.s, lv]
structure Bind where
  name : Str
  v : Val
  lv : Value
def Bind.cells (b : Bind) : List Value := [gs b.name, .int .i64 b.v.k, .int .i64 b.v.n, gs b.v.s, b.lv]
instance : Cells 1 I64.cells := ⟨fun _ => rfl, by decide, fun _ => rfl⟩
instance : Cells 1 Str.cells := ⟨fun _ => rfl, by decide, fun _ => rfl⟩
instance : Cells 3 Typing.cells := ⟨fun _ => rfl, by decide, fun _ => rfl⟩
instance : Cells 6 Term.cells := ⟨fun _ => rfl, by decide, fun _ => rfl⟩
def RdV (H : Hp) (lv : Value) (x : Val) : Prop := RdSl H 1 I64.cells lv x.l
def EnvOk (H : Hp) (env : List Bind) : Prop := ∀ b ∈ env, RdV H b.lv b.v
theorem RdV.le {H H' : Hp} {lv : Value} {x : Val} (h : RdV H lv x) (hl : H.le H') : RdV H' lv x := RdSl.le h hl
theorem EnvOk.le {H H' : Hp} {env : List Bind} (h : EnvOk H env) (hl : H.le H') : EnvOk H' env := fun b hb => (h b hb).le hl
theorem EnvOk.nil {H : Hp} : EnvOk H [] := fun b hb => by cases hb
theorem take_snoc {α : Type} {l : List α} {k : Int} {x : α} (hk : 0 ≤ k) (hx : l[k.toNat]? = some x) : l.take (k + 1).toNat = l.take k.toNat ++ [x] := by
  rw [show (k + 1).toNat = k.toNat + 1 by omega, List.take_add_one, hx]; rfl
theorem take_all {α : Type} {l : List α} {k : Int} (h : ¬ k < l.length) (h2 : 0 ≤ k) : l.take k.toNat = l := List.take_of_length_le (by omega)
theorem map_take_snoc {α β : Type} {f : α → β} {l : List α} {k : Int} {x : α} (hk : 0 ≤ k) (hx : l[k.toNat]? = some x) : (l.take (k + 1).toNat).map f = (l.take k.toNat).map f ++ [f x] := by
  rw [take_snoc hk hx]; simp
end Go.Sx
namespace Go.Sx
open Go
def v0 : Val := ⟨0, 0, [], []⟩
def RV (r : Val × Int) (v : Value) (H : Hp) : Prop := ∃ lv, v = .tuple #[.agg (r.1.cells lv).toArray, .int .i64 r.2] ∧ RdV H lv r.1
theorem RV.of {r q : Val × Int} {lv : Value} {H : Hp} (h : q = r) (hr : RdV H lv q.1) : RV r (.tuple #[.agg (q.1.cells lv).toArray, .int .i64 q.2]) H := ⟨lv, by rw [h], h ▸ hr⟩
theorem RV.le {r : Val × Int} {v : Value} {H H' : Hp} (h : RV r v H) (hl : H.le H') : RV r v H' := by
  obtain ⟨lv, h1, h2⟩ := h; exact ⟨lv, h1, h2.le hl⟩
theorem RdV.nil {H : Hp} {k n : Int} {s : Str} : RdV H (.slice none 0 0) ⟨k, n, s, []⟩ := RdSl.nil
end Go.Sx
namespace Go.Sx
open Go
end Go.Sx
namespace Go.Sx
open Go
end Go.Sx
namespace Go.Sx
open Go
theorem enc_gs (s : Str) : Go.Proofs.encStr s = gs s := rfl
theorem putCells_list (d : List Str) (cs : List Value) (h : d.length ≤ cs.length) : (Go.Sort.putCells Go.Proofs.encStr 0 d.toArray cs.toArray).toList = d.map gs ++ cs.drop d.length := by
  apply List.ext_getElem?
  intro k
  rw [List.getElem?_append]
  by_cases hk : k < d.length
  · simp [Go.Sort.putCells, hk, show k < cs.length by omega]
    rfl
  · by_cases hc : k < cs.length
    · simp [Go.Sort.putCells, hk, hc, show d.length + (k - d.length) = k by omega]
    · simp [Go.Sort.putCells, hk, hc, show d.length + (k - d.length) = k by omega]
section
variable {P : Program} {n : Nat} {ops : Array Oper} {Q : Exit → Act → World → Prop} {E : Env} {M : List Nat} {w0 : World} {H0 H : Hp} {L : Blks} {C : World → Prop} {rest : List Oper} {dst : Option Nat} {op : Op} {ty : TypeId} {pos : String} {aft : Array Edge}
theorem St.row {w : World} {b : Nat} {cs : List Value} {R : Blks} {d : List Str} (h : St M w0 H0 H ((b, cs) :: R) w) (hd : d.length ≤ cs.length) (q : Nat) (os : Array Obj) :
    St M w0 H0 H ((b, d.map gs ++ cs.drop d.length) :: R) (Go.Sort.grow (Go.Sort.putRow Go.Proofs.encStr (Go.Sort.ahead w q) b 0 d.toArray) os) := by
  have h1 : St M w0 H0 H ((b, d.map gs ++ cs.drop d.length) :: R) (Go.Sort.putRow Go.Proofs.encStr (Go.Sort.ahead w q) b 0 d.toArray) := by
    refine h.set (Upd.here _) _ (by simp) rfl rfl rfl (fun t ht => ?_) (fun k hk => ?_)
    · have e : (Go.Sort.putCells Go.Proofs.encStr 0 d.toArray cs.toArray) = (d.map gs ++ cs.drop d.length).toArray := by
        apply Array.ext'
        rw [putCells_list d cs hd]
      simp [Go.Sort.putRow, Go.Sort.mapBlock, Array.getElem?_modify, ht, Go.Sort.onCells, e]
    · simp [Go.Sort.putRow, Go.Sort.mapBlock, Array.getElem?_modify, Ne.symm hk]
  refine Ext.st (w := Go.Sort.putRow Go.Proofs.encStr (Go.Sort.ahead w q) b 0 d.toArray) ⟨rfl, rfl, rfl, by simp [Go.Sort.grow], fun k hk => ?_⟩ h1
  simp only [Go.Sort.grow]
  rw [Array.getElem?_append_left hk]
theorem St.holds {w : World} {b : Nat} {cs : List Value} {R : Blks} {d : List Str} (h : St M w0 H0 H ((b, cs) :: R) w) (hd : cs.take d.length = d.map gs) : Go.Sort.Holds Go.Proofs.encStr w b 0 d.toArray := by
  intro j hj
  have hj' : j < d.length := by simpa using hj
  have h1 : cs[j]? = some (gs d[j]) := by
    have : (cs.take d.length)[j]? = some (gs d[j]) := by rw [hd]; simp [hj']
    rw [List.getElem?_take] at this
    simpa [hj'] using this
  constructor
  · rw [Nat.zero_add, h.cell (.here _) j, h1]
    simp [hj', enc_gs]
  · obtain ⟨t, ht⟩ := h.own (b, cs) (by simp)
    have ht' : w.heap[b]? = some (.cells cs.toArray t (0, 0)) := ht
    simp [World.frozen?, ht']
theorem TL.callG {ι : Type} {f : FuncId} {args : List Value} {Φ : Value → ι → Prop} {C' : ι → World → Prop} (hE : Enters P E op f args) (hF : ∀ w, C w → Calls P f args.toArray w (fun e w' => ∃ v i, e = .returned v ∧ Φ v i ∧ C' i w')) (hd : fits dst n = true)
    (h : ∀ v i, Φ v i → TL P n ops Q rest (putE dst v E) (C' i)) : TL P n ops Q ({ dst := dst, op := op, type := ty, pos := pos, after := aft, guard := none } :: rest) E C := by
  intro a w he hw
  refine wpW_plain rfl (fun K hK => ?_)
  unfold Oper.wp
  rw [hE n a w _ rfl he]
  refine (hF w hw).mono ?_
  rintro e w' ⟨v, i, rfl, hΦ, hC⟩
  exact hK _ _ (h v i hΦ _ _ (he.put hd) hC)
structure SortC (P : Program) (f : FuncId) : Prop where
  some : ∀ (b off cap : Nat) (ss : List Str) (w : World), Go.Sort.Holds Go.Proofs.encStr w b off ss.toArray → b < w.heap.size → ss.length < 4611686018427387904 →
    Calls P f #[.slice (some ⟨b, off, none⟩) ss.length cap] w fun e w' => e = .returned (.tuple #[]) ∧ ∃ n os, w' = Go.Sort.grow (Go.Sort.putRow Go.Proofs.encStr (Go.Sort.ahead w n) b off (ss.mergeSort fun x y => decide (x ≤ y)).toArray) os
  none : ∀ (p : Option Addr) (cap : Nat) (w : World), Calls P f #[.slice p 0 cap] w fun e w' => e = .returned (.tuple #[]) ∧ w' = w
def sortS (l : List Str) : List Str := l.mergeSort fun x y => decide (x ≤ y)
theorem sortS_len (l : List Str) : (sortS l).length = l.length := List.length_mergeSort _
theorem flat_str (l : List Str) : l.flatMap Str.cells = l.map gs := by
  induction l with
  | nil => rfl
  | cons x l ih => simp [Str.cells, ih]
theorem run_sort {f : FuncId} (hS : SortC P f) {v : Value} {xs : List Str} {ob : Blks} {F : Blks → Blks} (hO : OwnSl 1 Str.cells v xs ob) (hU : Tl ob L F) (hm : xs.length < 4611686018427387904) {w : World} (hw : St M w0 H0 H L w) :
    Calls P f #[v] w (fun e w' => ∃ u ob', e = .returned u ∧ (u = .tuple #[] ∧ OwnSl 1 Str.cells v (sortS xs) ob') ∧ St M w0 H0 H (F ob') w') := by
  obtain ⟨R, hp1, hp2⟩ := hU.perm
  rcases hO with ⟨rfl, rfl, rfl⟩ | ⟨b, cap, cs, rfl, rfl, hcl, htk, hle, hcm⟩
  · refine (hS.none none 0 w).mono ?_
    rintro e w' ⟨rfl, rfl⟩
    exact ⟨_, [], rfl, ⟨rfl, by rw [show sortS [] = [] by unfold sortS; simp]; exact OwnSl.nil⟩, hw.perm (hp1.trans (hp2 []).symm)⟩
  · have hwR := hw.perm hp1
    have ht : cs.take xs.length = xs.map gs := by rw [← flat_str, ← htk, Nat.mul_one]
    have hlen : xs.length ≤ cs.length := by omega
    refine (hS.some b 0 cap xs w (hwR.holds ht) (hwR.lt (p := (b, cs)) (by simp)) hm).mono ?_
    rintro e w' ⟨rfl, q, os, rfl⟩
    have h2 := hwR.row (d := sortS xs) (by rw [sortS_len]; exact hlen) q os
    refine ⟨_, [(b, (sortS xs).map gs ++ cs.drop (sortS xs).length)], rfl, ⟨rfl, .inr ⟨b, cap, _, by rw [sortS_len], rfl, ?_, ?_, by rw [sortS_len]; exact hle, hcm⟩⟩, h2.perm (hp2 [(b, _)]).symm⟩
    · simp [sortS_len]; omega
    · rw [Nat.mul_one, flat_str, List.take_left' (by simp)]
theorem TL.sort {f : FuncId} {v : Value} {xs : List Str} {ob : Blks} {F : Blks → Blks} (hE : Enters P E op f [v]) (hS : SortC P f) (hO : OwnSl 1 Str.cells v xs ob) (hU : Tl ob L F) (hm : xs.length < 4611686018427387904) (hd : fits dst n = true)
    (h : ∀ ob', OwnSl 1 Str.cells v (sortS xs) ob' → TL P n ops Q rest (putE dst (.tuple #[]) E) (St M w0 H0 H (F ob'))) :
    TL P n ops Q ({ dst := dst, op := op, type := ty, pos := pos, after := aft, guard := none } :: rest) E (St M w0 H0 H L) :=
  TL.callG (ι := Blks) (Φ := fun u ob' => u = .tuple #[] ∧ OwnSl 1 Str.cells v (sortS xs) ob') (C' := fun ob' => St M w0 H0 H (F ob')) hE (fun w hw => run_sort hS hO hU hm hw) hd (fun u ob' hΦ => by obtain ⟨rfl, hO'⟩ := hΦ; exact h ob' hO')
structure CompactC (P : Program) (f : FuncId) : Prop where
  some : ∀ (b off cap : Nat) (zs : List Str) (w : World), Go.Sort.Holds Go.Proofs.encStr w b off zs.toArray → zs.length ≤ 9223372036854775807 → zs.length ≤ cap →
    Calls P f #[.slice (some ⟨b, off, none⟩) zs.length cap] w fun e w' => e = .returned (.slice (some ⟨b, off, none⟩) (Lib.compact zs).length cap) ∧ ∃ q, w' = Go.Sort.putRow Go.Proofs.encStr (Go.Sort.ahead w q) b off (Lib.compact zs ++ List.replicate (zs.length - (Lib.compact zs).length) []).toArray
  none : ∀ (p : Option Addr) (cap : Nat) (w : World), Calls P f #[.slice p 0 cap] w fun e w' => e = .returned (.slice p 0 cap) ∧ w' = w
theorem run_compact {f : FuncId} (hS : CompactC P f) {v : Value} {xs : List Str} {ob : Blks} {F : Blks → Blks} (hO : OwnSl 1 Str.cells v xs ob) (hU : Tl ob L F) {w : World} (hw : St M w0 H0 H L w) :
    Calls P f #[v] w (fun e w' => ∃ u ob', e = .returned u ∧ OwnSl 1 Str.cells u (Lib.compact xs) ob' ∧ St M w0 H0 H (F ob') w') := by
  obtain ⟨R, hp1, hp2⟩ := hU.perm
  rcases hO with ⟨rfl, rfl, rfl⟩ | ⟨b, cap, cs, rfl, rfl, hcl, htk, hle, hcm⟩
  · refine (hS.none none 0 w).mono ?_
    rintro e w' ⟨rfl, rfl⟩
    exact ⟨_, [], rfl, OwnSl.nil, hw.perm (hp1.trans (hp2 []).symm)⟩
  · have hwR := hw.perm hp1
    have ht : cs.take xs.length = xs.map gs := by rw [← flat_str, ← htk, Nat.mul_one]
    have hlen : xs.length ≤ cs.length := by omega
    have hc := Lib.compact_length_le xs
    refine (hS.some b 0 cap xs w (hwR.holds ht) (by omega) hle).mono ?_
    rintro e w' ⟨rfl, q, rfl⟩
    have hl2 : (Lib.compact xs ++ List.replicate (xs.length - (Lib.compact xs).length) ([] : Str)).length = xs.length := by simp; omega
    have h2 := hwR.row (d := Lib.compact xs ++ List.replicate (xs.length - (Lib.compact xs).length) []) (by rw [hl2]; exact hlen) q #[]
    have hg : ∀ W : World, Go.Sort.grow W #[] = W := fun W => by simp [Go.Sort.grow]
    rw [hg, hl2] at h2
    refine ⟨_, [(b, (Lib.compact xs ++ List.replicate (xs.length - (Lib.compact xs).length) ([] : Str)).map gs ++ cs.drop xs.length)], rfl, .inr ⟨b, cap, _, rfl, rfl, ?_, ?_, by omega, hcm⟩, h2.perm (hp2 [(b, _)]).symm⟩
    · rw [List.length_append, List.length_map, hl2]; simp; omega
    · rw [Nat.mul_one, flat_str, List.map_append, List.append_assoc, List.take_left' (by simp)]
theorem TL.compact {f : FuncId} {v : Value} {xs : List Str} {ob : Blks} {F : Blks → Blks} (hE : Enters P E op f [v]) (hS : CompactC P f) (hO : OwnSl 1 Str.cells v xs ob) (hU : Tl ob L F) (hd : fits dst n = true)
    (h : ∀ a c ob', OwnSl 1 Str.cells (.slice a (Lib.compact xs).length c) (Lib.compact xs) ob' → TL P n ops Q rest (putE dst (.slice a (Lib.compact xs).length c) E) (St M w0 H0 H (F ob'))) :
    TL P n ops Q ({ dst := dst, op := op, type := ty, pos := pos, after := aft, guard := none } :: rest) E (St M w0 H0 H L) :=
  TL.callG (ι := Blks) (Φ := fun u ob' => OwnSl 1 Str.cells u (Lib.compact xs) ob') (C' := fun ob' => St M w0 H0 H (F ob')) hE (fun w hw => run_compact hS hO hU hw) hd (fun u ob' hΦ => by obtain ⟨a, c, rfl⟩ := hΦ.form; exact h a c ob' hΦ)
end
end Go.Sx
namespace Go.Sx
open Go
def varsW (l : List Term) : Nat → Int → List Str
  | 0, _ => []
  | f + 1, at_ => if at_ < 0 then [] else match l[at_.toNat]? with
    | none => []
    | some t => varsW l f t.l ++ (varsW l f t.r ++ (if t.kind = 0 then [t.name] else []))
theorem varsW_neg {l : List Term} {f : Nat} {at_ : Int} (h : at_ < 0) : varsW l f at_ = [] := by
  cases f with
  | zero => rfl
  | succ f => unfold varsW; rw [if_pos h]
theorem varsW_at {l : List Term} {f : Nat} {at_ : Int} {t : Term} (h : ¬ at_ < 0) (hx : l[at_.toNat]? = some t) : varsW l (f + 1) at_ = varsW l f t.l ++ (varsW l f t.r ++ (if t.kind = 0 then [t.name] else [])) := by
  rw [varsW, if_neg h, hx]
theorem mayW_vars {l : List Term} : ∀ (f : Nat) (at_ deep : Int) (met : List Bool), 0 ≤ at_ → 1 ≤ deep → (mayW l f at_ deep met).1 = true → (varsW l f at_).length ≤ 2 ^ (25 - deep.toNat) := by
  intro f
  induction f with
  | zero => intro at_ deep met _ _ h; simp [mayW] at h
  | succ f ih =>
    intro at_ deep met h0 hd h
    cases hx : l[at_.toNat]? with
    | none => simp [mayW, hx] at h
    | some t =>
      by_cases hg : met[at_.toNat]?.getD false = true ∨ 24 < deep ∨ operandsI t.kind < 0 ∨ fieldsB t = false
      · rw [mayW_F hx hg] at h; cases h
      · have hgg : MayG deep met at_ t := by
          refine ⟨?_, ?_, ?_, ?_⟩
          · cases hb : met[at_.toNat]?.getD false with
            | false => rfl
            | true => exact absurd (.inl hb) hg
          · intro h1; exact hg (.inr (.inl h1))
          · intro h1; exact hg (.inr (.inr (.inl h1)))
          · cases hb : fieldsB t with
            | true => rfl
            | false => exact absurd (.inr (.inr (.inr hb))) hg
        generalize h00 : opW (operandsI t.kind) at_ (fun to m => mayW l f to (deep + 1) m) 0 t.l (met.set at_.toNat true) = r0
        obtain ⟨b0, m0⟩ := r0
        cases b0 with
        | false => rw [mayW_0 hx hgg h00] at h; cases h
        | true =>
          generalize h11 : opW (operandsI t.kind) at_ (fun to m => mayW l f to (deep + 1) m) 1 t.r m0 = r1
          rw [mayW_1 hx hgg h00 h11] at h
          have h24 := hgg.2.1
          have key : ∀ (i to : Int) (m m' : List Bool), opW (operandsI t.kind) at_ (fun to m => mayW l f to (deep + 1) m) i to m = (true, m') → (i < operandsI t.kind → (varsW l f to).length ≤ 2 ^ (25 - (deep + 1).toNat)) ∧ (operandsI t.kind ≤ i → varsW l f to = []) := by
            intro i to m m' he
            refine ⟨fun hi => ?_, fun hi => ?_⟩
            · by_cases hb : to < 0 ∨ at_ ≤ to
              · rw [opW_bad (by omega) hb] at he; cases he
              · rw [opW_rec (by omega) (by omega) (by omega)] at he
                exact ih to (deep + 1) m (by omega) (by omega) (by rw [he])
            · rw [opW_le hi] at he
              have : to = -1 := by simpa using congrArg Prod.fst he
              exact varsW_neg (by omega)
          have k0 := key 0 t.l _ _ h00
          have k1 := key 1 t.r _ r1.2 (by rw [h11]; cases r1; simp at h; simp [h])
          rw [varsW_at (by omega) hx]
          have hp : 2 ^ (25 - deep.toNat) = 2 * 2 ^ (25 - (deep + 1).toNat) := by
            rw [show 25 - deep.toNat = (25 - (deep + 1).toNat) + 1 by omega, Nat.pow_succ]; omega
          have h1 : 0 < 2 ^ (25 - (deep + 1).toNat) := Nat.two_pow_pos _
          simp only [List.length_append]
          by_cases hk : t.kind = 0
          · have ho : operandsI t.kind = 0 := by rw [hk]; decide
            rw [k0.2 (by omega), k1.2 (by omega), if_pos hk]
            simp; omega
          · rw [if_neg hk]
            have a0 : (varsW l f t.l).length ≤ 2 ^ (25 - (deep + 1).toNat) := by
              rcases Int.lt_or_le 0 (operandsI t.kind) with ho | ho
              · exact k0.1 ho
              · rw [k0.2 ho]; simp
            have a1 : (varsW l f t.r).length ≤ 2 ^ (25 - (deep + 1).toNat) := by
              rcases Int.lt_or_le 1 (operandsI t.kind) with ho | ho
              · exact k1.1 ho
              · rw [k1.2 ho]; simp
            simp; omega
theorem mayB_vars {l : List Term} {root : Int} (h : mayB l root = true) : (varsW l (root.toNat + 1) root).length ≤ 16777216 := by
  unfold mayB at h
  split at h
  · cases h
  · split at h
    · cases h
    · split at h
      · cases h
      · have := mayW_vars _ _ _ _ (by omega) (by decide) h
        exact this
def varsS (l : List Term) (root : Int) : List Str := if mayB l root then Lib.compact (sortS (varsW l (root.toNat + 1) root)) else []
def placeS (l : List Str) (s : Str) : Int := match l with
  | [] => -1
  | x :: r => if x = s then 0 else if placeS r s < 0 then -1 else placeS r s + 1
theorem placeS_range (l : List Str) (s : Str) : placeS l s = -1 ∨ (0 ≤ placeS l s ∧ placeS l s < l.length) := by
  induction l with
  | nil => exact .inl rfl
  | cons x r ih =>
    unfold placeS
    split
    · right; simp only [List.length_cons, Int.natCast_add]; omega
    · split
      · exact .inl rfl
      · right; simp only [List.length_cons, Int.natCast_add]; omega
theorem placeS_hit {l : List Str} {s : Str} {k : Int} (h0 : 0 ≤ k) (hx : l[k.toNat]? = some s) (hn : ∀ j : Nat, j < k.toNat → l[j]? ≠ some s) : placeS l s = k := by
  induction l generalizing k with
  | nil => simp at hx
  | cons x r ih =>
    unfold placeS
    by_cases hk : k = 0
    · subst hk
      simp at hx
      rw [if_pos hx]
    · have hne : ¬ x = s := by
        have := hn 0 (by omega)
        simpa using this
      rw [if_neg hne]
      have e := ih (k := k - 1) (by omega) (by
        rw [show k.toNat = (k - 1).toNat + 1 by omega] at hx
        simpa using hx) (fun j hj => by
          have := hn (j + 1) (by omega)
          simpa using this)
      rw [e, if_neg (by omega)]; omega
theorem placeS_no {l : List Str} {s : Str} (hn : s ∉ l) : placeS l s = -1 := by
  induction l with
  | nil => rfl
  | cons x r ih =>
    simp only [List.mem_cons, not_or] at hn
    unfold placeS
    rw [if_neg (fun e => hn.1 e.symm), ih hn.2]; rfl
theorem placeS_mem {l : List Str} {s : Str} : 0 ≤ placeS l s ↔ s ∈ l := by
  constructor
  · intro h
    apply Classical.byContradiction
    intro hn
    rw [placeS_no hn] at h
    omega
  · intro h
    induction l with
    | nil => cases h
    | cons x r ih =>
      unfold placeS
      split
      · decide
      · rename_i hne
        have h1 := ih (by rcases List.mem_cons.1 h with rfl | h; exact absurd rfl hne; exact h)
        rw [if_neg (by omega)]; omega
theorem place_next {l : List Str} {s x : Str} {k : Int} (h0 : 0 ≤ k) (h : ∀ j : Nat, j < k.toNat → l[j]? ≠ some s) (hx : l[k.toNat]? = some x) (hne : ¬ x = s) : ∀ j : Nat, j < (k + 1).toNat → l[j]? ≠ some s := by
  intro j hj
  by_cases hk : j = k.toNat
  · subst hk; rw [hx]; simpa using hne
  · exact h j (by omega)
theorem place_end {l : List Str} {s : Str} {k : Int} (h : ∀ j : Nat, j < k.toNat → l[j]? ≠ some s) (hk : ¬ k < l.length) : placeS l s = -1 := by
  refine placeS_no (fun hm => ?_)
  obtain ⟨j, hj⟩ := List.mem_iff_getElem?.1 hm
  exact h j (by have := (List.getElem?_eq_some_iff.1 hj).1; omega) hj
def hasS (l : List Str) (s : Str) : Bool := decide (s ∈ l)
theorem hasS_place (l : List Str) (s : Str) : decide (0 ≤ placeS l s) = hasS l s := by
  unfold hasS
  rw [Bool.eq_iff_iff]; simp only [decide_eq_true_eq]
  exact placeS_mem
end Go.Sx
namespace Go.Sx
open Go
theorem compact_len (zs : List Str) : (Lib.compact zs).length ≤ zs.length := Lib.compact_length_le zs
theorem varsS_len (l : List Term) (root : Int) : (varsS l root).length ≤ 16777216 := by
  unfold varsS
  split
  · rename_i h
    have := compact_len (sortS (varsW l (root.toNat + 1) root))
    rw [sortS_len] at this
    have := mayB_vars h
    omega
  · simp
end Go.Sx
namespace Go.Sx
open Go
def LeafT (t : Term) : Prop := operandsI t.kind = 0 ∧ fieldsB t = true ∧ t.l = -1 ∧ t.r = -1
theorem LeafT.ok {t : Term} {at_ deep : Int} (h : LeafT t) (hd : deep ≤ 24) : okT t at_ deep = true :=
  okT_of (by rw [h.1]; decide) h.2.1 hd (fun _ => h.2.2.1) (fun hk => by rw [h.1] at hk; exact absurd (by decide) hk) (fun _ => h.2.2.2) (fun hk => by rw [h.1] at hk; exact absurd (by decide) hk)
end Go.Sx
namespace Go.Sx
open Go Go.ChangeShapes Go.WideShapes Go.ChangeAt Go.RowKit
def hpOf (W : World) : Hp := fun b o => W.cell? ⟨b, o, none⟩
theorem St.below {W W' : World} {H H' : Hp} {L : Blks} (h : St [] W H H' L W') : Below W.heap.size W W' :=
  ⟨h.os, h.tape, h.output, h.size, fun k hk => h.old k hk (by simp)⟩
theorem Fn.callsT {P : Program} {f : FuncId} {args : List Value} {W : World} {u : Value} (h : Fn P f args (hpOf W) (fun v _ => v = u)) : Calls P f args.toArray W fun e W' => e = .returned u ∧ Below W.heap.size W W' :=
  (h W (St.start (fun b o u hu => hu))).mono (by
    rintro e W' ⟨v', H', L', rfl, hst, hk, rfl⟩
    exact ⟨rfl, hst.below⟩)
section
variable {HH : Type} {enc : TypeId × Value → HH} {P : Program}
theorem trodAll_stays (hl : laidOutB P = true) {W W' : World} (hB : Below W.heap.size W W') {sp : Nat → Bool} : ∀ (ts : List TypeId) (vs : List Value) (ds : List (DataW HH)) (ps : List MemPlace),
    (∀ t ∈ ts, P.readableRec t = true ∧ t < P.types.size) → DataW.TrodAll enc P W 0 (fun _ => true) true ts vs ds ps → (∀ x ∈ ps, x.block < W.heap.size) → (∀ x ∈ ps, sp x.block = true) → DataW.TrodAll enc P W' 0 sp true ts vs ds ps
  | [], [], [], ps, _, h, _, _ => h
  | t :: ts, v :: vs, d :: ds, ps, hr, h, hlt, hs => by
    obtain ⟨p, q, h1, h2, rfl⟩ := h
    refine ⟨p, q, ?_, ?_, rfl⟩
    · exact WideElems.Trod_stays hl (hr t (by simp)).1 (hr t (by simp)).2 h1 (fun x hx => hB.same (hlt x (List.mem_append_left _ hx))) (fun x hx => hs x (List.mem_append_left _ hx))
    · exact trodAll_stays hl hB ts vs ds q (fun u hu => hr u (List.mem_cons_of_mem _ hu)) h2 (fun x hx => hlt x (List.mem_append_right _ hx)) (fun x hx => hs x (List.mem_append_right _ hx))
  | [], [], _ :: _, _, _, h, _, _ => h.elim
  | [], _ :: _, _, _, _, h, _, _ => h.elim
  | _ :: _, [], _, _, _, h, _, _ => h.elim
  | _ :: _, _ :: _, [], _, _, h, _, _ => h.elim
theorem law_done {f : Func} {s : ChangeSpec} {W W' : World} {args : Array Value} {ds gs : List (DataW HH)} {before : List MemPlace} {tb : TypeId} (hW : DataW.Whole enc P f.params.toList s.vars false W args.toList ds gs before)
    (hv : s.vars = []) (hvs : (s.fn HH (ds ++ gs)).vars = []) (hres : (s.fn HH (ds ++ gs)).results = [.lit (.bool true)]) (hargs : (s.fn HH (ds ++ gs)).args = ds) (hrt : f.resultTypes = #[tb]) (hb : P.underlying tb = some .bool) (hl : laidOutB P = true)
    (hread : ∀ t ∈ f.params.toList, P.readableRec t = true ∧ t < P.types.size) (hB : Below W.heap.size W W') : s.post enc P f false true false false W args (.bool true) W' := by
  have hW0 := hW
  obtain ⟨p, q, hA, hV, he, hfz, hnd⟩ := hW
  rw [hv] at hV
  have hq : gs = [] ∧ q = [] := by
    cases gs with
    | nil => exact ⟨rfl, hV⟩
    | cons g gs => exact hV.elim
  obtain ⟨rfl, rfl⟩ := hq
  rw [List.append_nil] at he
  subst he
  have hlt : ∀ x ∈ before, x.block < W.heap.size := fun x hx => hW0.lt x hx
  refine ⟨ds, [], before, [], before, [], hW0, ?_, ?_, ?_, World.keptBut_mono (fun x hx => ⟨hx, .inr (.inl hx)⟩) (hB.frame (· ∈ before)), fun h => (by cases h)⟩
  · rw [hres, hrt]
    exact trodAll_mk1 (shut_bool hb _)
  · rw [hargs]
    exact trodAll_stays hl hB _ _ _ _ hread hA hlt (fun x hx => by simpa using hlt x hx)
  · rw [hv, hvs]
    exact rfl
def Opens (P : Program) (t : TypeId) {α : Type} (en : α → List Value) (ok : Hp → α → Prop) : Prop :=
  ∀ (HH : Type) (enc : TypeId × Value → HH) (W : World) (fuel : Nat) (cs : List Value) (x : DataW HH × List MemPlace), DataW.trod enc P W 0 (fun _ => true) true fuel t cs = some x → ∃ a : α, cs = en a ∧ ok (hpOf W) a
theorem opens_i64 {t : TypeId} (ht : P.underlying t = some (.int .i64)) : Opens P t (fun n : Int => [.int .i64 n]) (fun _ n => -9223372036854775808 ≤ n ∧ n ≤ 9223372036854775807) := by
  intro HH enc W fuel cs x h
  obtain ⟨n, rfl, _, hw⟩ := DataW.trod_int ht h
  refine ⟨n, rfl, ?_⟩
  simpa [Lit.wf, IntKind.min, IntKind.max, IntKind.signed, IntKind.bits] using hw
theorem spot_none {W : World} {a : Addr} {v : Value} (h : W.cell? a = some v) : a.spot = none := by
  unfold World.cell? at h
  split at h
  · split at h
    · cases h
    · rename_i hs; simpa using hs
  · cases h
theorem exists_list {α : Type} {Q : Nat → α → Prop} : ∀ {len : Nat}, (∀ i, i < len → ∃ z, Q i z) → ∃ l : List α, l.length = len ∧ ∀ i z, l[i]? = some z → Q i z
  | 0, _ => ⟨[], rfl, fun i z h => by simp at h⟩
  | len + 1, h => by
    obtain ⟨l, h1, h2⟩ := exists_list (fun i hi => h i (Nat.lt_succ_of_lt hi))
    obtain ⟨z, hz⟩ := h len (Nat.lt_succ_self _)
    refine ⟨l ++ [z], by simp [h1], fun i y hy => ?_⟩
    by_cases hi : i < l.length
    · rw [List.getElem?_append_left hi] at hy; exact h2 i y hy
    · rw [List.getElem?_append_right (by omega)] at hy
      have hi0 : i - l.length = 0 := by
        rcases Nat.eq_zero_or_pos (i - l.length) with h | h
        · exact h
        · rw [List.getElem?_eq_none (by simp; omega)] at hy; cases hy
      rw [hi0] at hy
      simp only [List.getElem?_cons_zero, Option.some.injEq] at hy
      subst hy
      have : i = len := by omega
      subst this
      exact hz
theorem Opens.one {t : TypeId} {α : Type} {en : α → List Value} {ok : Hp → α → Prop} {W : World} {v : Value} {d : DataW HH} {p : List MemPlace} (h : Opens P t en ok) (hT : DataW.Trod enc P W 0 (fun _ => true) true t v d p) :
    ∃ a : α, v.cells.toList = en a ∧ ok (hpOf W) a := by
  obtain ⟨fuel, hf⟩ := hT
  exact h HH enc W fuel _ _ hf
end
structure Sort2 where
  kind : Int
  at_ : Int
def Sort2.cells (s : Sort2) : List Value := [.int .i64 s.kind, .int .i64 s.at_]
def Sort2.ok (_ : Hp) (_ : Sort2) : Prop := True
end Go.Sx
namespace Go.Sx
open Go
abbrev VL := Val × Value
def VL.cells (x : VL) : List Value := x.1.cells x.2
def Val.ok (x : Val) : Prop := ((i64ok x.k ∧ i64ok x.n) ∧ x.s.length ≤ 9223372036854775807) ∧ ∀ n ∈ x.l, i64ok n
def VL.ok (H : Hp) (x : VL) : Prop := RdV H x.2 x.1 ∧ x.1.ok
def Bind.ok (H : Hp) (b : Bind) : Prop := RdV H b.lv b.v ∧ (b.v.ok ∧ b.name.length ≤ 9223372036854775807)
def Str.ok (_ : Hp) (s : Str) : Prop := s.length ≤ 9223372036854775807
def I64.ok (_ : Hp) (n : Int) : Prop := i64ok n
theorem opens_I64 {P : Program} {t : TypeId} (ht : P.underlying t = some (.int .i64)) : Opens P t I64.cells I64.ok := opens_i64 ht
end Go.Sx
namespace Go.Sx
open Go
instance : DecidableEq Val := fun a b => decidable_of_iff (a.k = b.k ∧ a.n = b.n ∧ a.s = b.s ∧ a.l = b.l) (by cases a; cases b; simp)
end Go.Sx
namespace Go.Sx
open Go
def slN : Value → Value
  | .slice a n c => .slice a n c
  | _ => .slice none 0 0
def Bind.cells2 (b : Bind) : List Value := [gs b.name, .int .i64 b.v.k, .int .i64 b.v.n, gs b.v.s, slN b.lv]
theorem slN_one (v : Value) : (slN v).oneCell' = true := by
  cases v <;> rfl
instance : Cells 5 Bind.cells2 := ⟨fun _ => rfl, by decide, fun x => by simp [Bind.cells2, slN_one]; exact ⟨rfl, rfl, rfl, rfl⟩⟩
theorem flat_set {α : Type} {enc : α → List Value} {k : Nat} (hk : ∀ x, (enc x).length = k) : ∀ (xs : List α) (i : Nat) (t : α), i < xs.length → setCells (xs.flatMap enc) (i * k) (enc t) = (xs.set i t).flatMap enc
  | [], i, t, h => by simp at h
  | x :: xs, 0, t, _ => by
    rw [setCells_eq _ _ _ (by simp [hk])]
    simp [hk]
  | x :: xs, i + 1, t, h => by
    have hl := flat_len (l := xs) (fun y _ => hk y)
    have hi : i < xs.length := by simpa using h
    have hle : i * k + k ≤ xs.length * k := by rw [← Nat.succ_mul]; exact Nat.mul_le_mul_right _ hi
    have ih := flat_set hk xs i t hi
    rw [setCells_eq _ _ _ (by rw [hk, hl]; omega)] at ih
    rw [setCells_eq _ _ _ (by simp [hk, hl, Nat.succ_mul]; omega)]
    simp only [List.flatMap_cons, List.set_cons_succ]
    rw [← ih, show (i + 1) * k = (enc x).length + i * k by rw [hk, Nat.succ_mul]; omega, List.take_append, List.drop_append]
    have e1 : List.drop (k + i * k + k) (enc x) = [] := List.drop_eq_nil_of_le (by rw [hk]; omega)
    have e2 : List.take (k + i * k) (enc x) = enc x := List.take_of_length_le (by rw [hk]; omega)
    simp [hk, e1, e2]
    rw [Nat.add_comm k (i * k)]
theorem OwnSl.set {α : Type} {k : Nat} {enc : α → List Value} [hc : Cells k enc] {b c : Nat} {cs : List Value} {xs : List α} {i : Nat} {t : α} (hcl : cs.length = c * k) (htk : cs.take (xs.length * k) = xs.flatMap enc) (hle : xs.length ≤ c) (hcm : c ≤ 9223372036854775807) (hi : i < xs.length) :
    OwnSl k enc (.slice (some ⟨b, 0, none⟩) xs.length c) (xs.set i t) [(b, setCells cs (i * k) (enc t))] := by
  have h1 : i * k + (enc t).length ≤ cs.length := by
    rw [hc.len, hcl, ← Nat.succ_mul]; exact Nat.mul_le_mul_right _ (by omega)
  have h2 : i * k + k ≤ xs.length * k := by rw [← Nat.succ_mul]; exact Nat.mul_le_mul_right _ (by omega)
  have h3 : xs.length * k ≤ cs.length := by rw [hcl]; exact Nat.mul_le_mul_right _ hle
  refine .inr ⟨b, c, _, by rw [List.length_set], rfl, ?_, ?_, by rw [List.length_set]; exact hle, hcm⟩
  · rw [setCells_eq _ _ _ h1]; simp [hc.len] at h1 ⊢; omega
  · rw [List.length_set, ← flat_set (fun x => hc.len x) xs i t hi, ← htk]
    rw [setCells_eq _ _ _ h1, setCells_eq _ _ _ (by rw [hc.len, List.length_take]; omega)]
    apply List.ext_getElem?
    intro j
    have hl : (enc t).length = k := hc.len t
    simp only [List.getElem?_append, List.getElem?_take, List.getElem?_drop, List.length_take, hl]
    by_cases a : j < xs.length * k
    · by_cases b' : j < i * k
      · simp [a, b', show j < min (i * k) cs.length by omega, show j < min (i * k) (min (xs.length * k) cs.length) by omega]
      · simp only [a, if_true, show ¬ j < min (i * k) cs.length by omega, show ¬ j < min (i * k) (min (xs.length * k) cs.length) by omega, if_false, b']
        rw [show min (i * k) cs.length = i * k by omega, show min (i * k) (min (xs.length * k) cs.length) = i * k by omega]
        by_cases c' : j - i * k < k
        · simp [c']
        · simp only [c', if_false, show i * k + k + (j - i * k - k) < xs.length * k by omega, if_true]
    · simp only [a, if_false]
      rw [show min (i * k) (min (xs.length * k) cs.length) = i * k by omega]
      simp [show ¬ j < i * k by omega, show ¬ j - i * k < k by omega, show ¬ (i * k + k + (j - i * k - k)) < xs.length * k by omega]
end Go.Sx
namespace Go.Sx
open Go
def putS : List Str → Str → List Str
  | [], s => [s]
  | x :: r, s => if Op.bytesLess x s = true then x :: putS r s else if x = s then x :: r else s :: x :: r
theorem put_next {l : List Str} {s x : Str} {k : Int} (h0 : 0 ≤ k) (h : putS l s = l.take k.toNat ++ putS (l.drop k.toNat) s) (hx : l[k.toNat]? = some x) (hc : Op.bytesLess x s = true) :
    putS l s = l.take (k + 1).toNat ++ putS (l.drop (k + 1).toNat) s := by
  have hlt : k.toNat < l.length := (List.getElem?_eq_some_iff.1 hx).1
  have hx' : l[k.toNat] = x := (List.getElem?_eq_some_iff.1 hx).2
  rw [h, take_snoc h0 hx, List.drop_eq_getElem_cons hlt, hx', putS, if_pos hc, show (k + 1).toNat = k.toNat + 1 by omega]
  simp
theorem put_have {l : List Str} {s x : Str} {k : Int} (h : putS l s = l.take k.toNat ++ putS (l.drop k.toNat) s) (hx : l[k.toNat]? = some x) (hc : ¬ Op.bytesLess x s = true) (he : x = s) : putS l s = l := by
  have hlt : k.toNat < l.length := (List.getElem?_eq_some_iff.1 hx).1
  have hx' : l[k.toNat] = x := (List.getElem?_eq_some_iff.1 hx).2
  rw [h, List.drop_eq_getElem_cons hlt, hx', putS, if_neg hc, if_pos he, ← hx', ← List.drop_eq_getElem_cons hlt, List.take_append_drop]
theorem put_mid {l : List Str} {s x : Str} {k : Int} (h : putS l s = l.take k.toNat ++ putS (l.drop k.toNat) s) (hx : l[k.toNat]? = some x) (hc : ¬ Op.bytesLess x s = true) (he : ¬ x = s) :
    putS l s = ([] ++ (l.take k.toNat).drop 0 ++ [s]) ++ (l.take l.length).drop k.toNat := by
  have hlt : k.toNat < l.length := (List.getElem?_eq_some_iff.1 hx).1
  have hx' : l[k.toNat] = x := (List.getElem?_eq_some_iff.1 hx).2
  rw [h, List.drop_eq_getElem_cons hlt, hx', putS, if_neg hc, if_neg he, ← hx', ← List.drop_eq_getElem_cons hlt]
  simp
theorem put_end {l : List Str} {s : Str} {k : Int} (h : putS l s = l.take k.toNat ++ putS (l.drop k.toNat) s) (h1 : ¬ k < l.length) :
    putS l s = ([] ++ (l.take k.toNat).drop 0 ++ [s]) ++ (l.take l.length).drop k.toNat := by
  rw [h, List.drop_eq_nil_of_le (show l.length ≤ k.toNat by omega), putS]
  have e1 : l.drop k.toNat = [] := List.drop_eq_nil_of_le (by omega)
  simp [e1]
theorem put_len (l : List Str) (s : Str) : (putS l s).length ≤ l.length + 1 := by
  induction l with
  | nil => simp [putS]
  | cons x r ih =>
    unfold putS
    split
    · simp; omega
    · split <;> simp
end Go.Sx
namespace Go.Sx
open Go
end Go.Sx
namespace Go.Sx
open Go
def onceS (l : List Str) : Bool := decide l.Nodup
theorem take_nodup {l : List Str} {k : Int} {x : Str} (k0 : 0 ≤ k) (hx : l[k.toNat]? = some x) (h : (l.take k.toNat).Nodup) (hn : x ∉ l.take k.toNat) : (l.take (k + 1).toNat).Nodup := by
  rw [take_snoc k0 hx, List.nodup_append]
  refine ⟨h, by simp, fun a ha b hb e => ?_⟩
  simp at hb; subst hb; subst e; exact hn ha
theorem place_first {l : List Str} {k : Int} {x : Str} (k0 : 0 ≤ k) (hx : l[k.toNat]? = some x) (h : placeS l x = k) : x ∉ l.take k.toNat := by
  intro hm
  obtain ⟨j, hj, he⟩ := List.mem_iff_getElem.1 hm
  rw [List.length_take] at hj
  -- the least such place
  have key : ∀ (l : List Str) (j : Nat), l[j]? = some x → placeS l x ≤ j := by
    intro l
    induction l with
    | nil => intro j h; simp at h
    | cons y l ih =>
      intro j h
      unfold placeS
      split
      · omega
      · cases j with
        | zero => simp at h; subst h; rename_i hne; exact absurd rfl hne
        | succ j =>
          have := ih j (by simpa using h)
          split <;> omega
  have h2 : l[j]? = some x := by rw [List.getElem_take] at he; rw [← he]; exact List.getElem?_eq_getElem (by omega)
  have := key l j h2
  omega
theorem once_end {l : List Str} {k : Int} (hk : ¬ k < l.length) (k0 : 0 ≤ k) (h : (l.take k.toNat).Nodup) : onceS l = true := by
  rw [take_all hk k0] at h; exact decide_eq_true h
theorem not_nodup {l : List Str} {k : Int} {x : Str} (k0 : 0 ≤ k) (hx : l[k.toNat]? = some x) (hm : x ∈ l.take k.toNat) : onceS l = false := by
  refine decide_eq_false fun hn => ?_
  have h1 : (l.take (k + 1).toNat).Nodup := hn.sublist (List.take_sublist _ _)
  rw [take_snoc k0 hx, List.nodup_append] at h1
  exact h1.2.2 x hm x (by simp) rfl
theorem once_has {l : List Str} {k : Int} {x : Str} (k0 : 0 ≤ k) (hx : l[k.toNat]? = some x) (h : hasS ((l.take k.toNat).drop 0) x = true) : onceS l = false := not_nodup k0 hx (by simpa [hasS] using h)
theorem has_not {l : List Str} {x : Str} (h : hasS (l.drop 0) x = false) : x ∉ l := by simpa [hasS] using h
theorem once_place {l : List Str} {k : Int} {x : Str} (k0 : 0 ≤ k) (hx : l[k.toNat]? = some x) (h : ¬ placeS l x = k) : onceS l = false := by
  refine decide_eq_false fun hn => h ?_
  refine placeS_hit k0 hx (fun j hj he => ?_)
  have h1 := (List.getElem?_eq_some_iff.1 hx)
  have h2 := (List.getElem?_eq_some_iff.1 he)
  obtain ⟨a1, b1⟩ := h1; obtain ⟨a2, b2⟩ := h2
  have := (List.getElem_inj hn (h₀ := a2) (h₁ := a1)).1 (b2.trans b1.symm)
  omega
theorem foldPut_len (s : Str) (l : List Str) : (l.foldl putS [s]).length ≤ l.length + 1 := by
  have : ∀ (l a : List Str), (l.foldl putS a).length ≤ l.length + a.length := by
    intro l
    induction l with
    | nil => intro a; simp
    | cons x l ih =>
      intro a
      have h1 := ih (putS a x)
      have h2 := put_len a x
      simp only [List.foldl_cons, List.length_cons]; omega
  simpa using this l [s]
def cand (s : Str) (k : Nat) : Str := s.take (12 - (Lib.itoa (k : Int)).length) ++ Lib.itoa (k : Int)
def freshF (l : List Str) (s : Str) : Nat → Nat → Str
  | 0, k => cand s k
  | f + 1, k => if cand s k ∈ l then freshF l s f (k + 1) else cand s k
def freshS (l : List Str) (s : Str) : Str := if s ∈ l then freshF l s 97 2 else s
theorem freshF_at {l : List Str} {s : Str} {k : Nat} (hn : cand s k ∉ l) : ∀ (f k0 : Nat), k0 ≤ k → k ≤ k0 + f → (∀ j, k0 ≤ j → j < k → cand s j ∈ l) → freshF l s f k0 = cand s k
  | 0, k0, h1, h2, _ => by have : k0 = k := by omega
                           subst this; rfl
  | f + 1, k0, h1, h2, hc => by
    unfold freshF
    by_cases e : k0 = k
    · subst e; rw [if_neg hn]
    · rw [if_pos (hc k0 (Nat.le_refl _) (by omega))]
      exact freshF_at hn f (k0 + 1) (by omega) (by omega) fun j a b => hc j (by omega) b
theorem fresh_char {l : List Str} {s : Str} {k : Nat} (hin : s ∈ l) (h2 : 2 ≤ k) (h9 : k ≤ 99) (hc : ∀ j, 2 ≤ j → j < k → cand s j ∈ l) (hn : cand s k ∉ l) : freshS l s = cand s k := by
  unfold freshS
  rw [if_pos hin]
  exact freshF_at hn 97 2 h2 (by omega) hc
theorem nodup_sub : ∀ (a l : List Str), a.Nodup → (∀ x ∈ a, x ∈ l) → a.length ≤ l.length
  | [], _, _, _ => Nat.zero_le _
  | x :: a, l, hn, hs => by
    rw [List.nodup_cons] at hn
    have hx := hs x (by simp)
    have h := nodup_sub a (l.erase x) hn.2 fun y hy => by
      have hne : y ≠ x := by rintro rfl; exact hn.1 hy
      exact (List.mem_erase_of_ne hne).2 (hs y (List.mem_cons_of_mem _ hy))
    rw [List.length_erase_of_mem hx] at h
    have := List.length_pos_of_mem hx
    simp only [List.length_cons]; omega
theorem itoa_two {k : Nat} (h1 : 10 ≤ k) (h2 : k ≤ 99) : Lib.itoa (k : Int) = [UInt8.ofNat (48 + k / 10), UInt8.ofNat (48 + k % 10)] := by
  unfold Lib.itoa
  rw [if_neg (by omega)]
  simp only [Int.toNat_natCast]
  exact Lib.decDigits_two (by omega) (by omega)
theorem itoa_one {k : Nat} (h2 : k < 10) : Lib.itoa (k : Int) = [UInt8.ofNat (48 + k)] := by
  unfold Lib.itoa
  rw [if_neg (by omega)]
  simp only [Int.toNat_natCast]
  exact Lib.decDigits_one h2
theorem itoa_len {k : Int} (h1 : 2 ≤ k) (h2 : k ≤ 99) : 1 ≤ (Lib.itoa k).length ∧ (Lib.itoa k).length ≤ 2 := by
  obtain ⟨n, rfl⟩ : ∃ n : Nat, k = n := ⟨k.toNat, by omega⟩
  by_cases h : n < 10
  · rw [itoa_one h]; simp
  · rw [itoa_two (by omega) (by omega)]; simp
theorem cand_inj {s : Str} {i j : Nat} (hi : 10 ≤ i ∧ i ≤ 99) (hj : 10 ≤ j ∧ j ≤ 99) (h : cand s i = cand s j) : i = j := by
  unfold cand at h
  rw [itoa_two hi.1 hi.2, itoa_two hj.1 hj.2] at h
  have h2 := List.append_cancel_left (show s.take 10 ++ [UInt8.ofNat (48 + i / 10), UInt8.ofNat (48 + i % 10)] = s.take 10 ++ [UInt8.ofNat (48 + j / 10), UInt8.ofNat (48 + j % 10)] from h)
  simp only [List.cons.injEq, and_true] at h2
  have e1 := congrArg UInt8.toNat h2.1
  have e2 := congrArg UInt8.toNat h2.2
  simp at e1 e2
  omega
theorem fresh_bound {l : List Str} {s : Str} (hl : l.length ≤ 60) (h : ∀ j : Nat, 10 ≤ j → j ≤ 99 → cand s j ∈ l) : False := by
  have hn : ((List.range' 10 90).map (cand s)).Nodup := by
    rw [List.nodup_iff_pairwise_ne] at *
    rw [List.pairwise_map]
    refine (List.nodup_range' (s := 10) (n := 90)).imp_of_mem ?_
    intro a b ha hb hab e
    simp only [List.mem_range'_1] at ha hb
    exact hab (cand_inj ⟨ha.1, by omega⟩ ⟨hb.1, by omega⟩ e)
  have := nodup_sub _ l hn fun x hx => by
    obtain ⟨j, hj, rfl⟩ := List.mem_map.1 hx
    simp only [List.mem_range'_1] at hj
    exact h j (by omega) (by omega)
  simp at this
  omega
section
variable {l : List Str} {s h : Str} {k : Int}
theorem cand_of (k2 : 2 ≤ k) (hI : h = s.take (12 - (Lib.itoa k).length)) : h ++ Lib.itoa k = cand s k.toNat := by
  subst hI
  unfold cand
  rw [show ((k.toNat : Nat) : Int) = k by omega]
def FreshI (l : List Str) (s : Str) (t : Str) (k : Int) : Prop := 2 ≤ k ∧ ((k = 2 ∧ t = s) ∨ (2 < k ∧ k ≤ 100 ∧ s ∈ l ∧ t = cand s (k - 1).toNat ∧ ∀ j : Nat, 2 ≤ j → j < (k - 1).toNat → cand s j ∈ l))
theorem FreshI.le {t : Str} (hl : l.length ≤ 60) (hI : FreshI l s t k) (h : hasS l t = true) : k ≤ 99 := by
  have hm : t ∈ l := by simpa [hasS] using h
  obtain ⟨h2, ⟨h3, _⟩ | ⟨h3, h4, _, rfl, hc⟩⟩ := hI
  · omega
  · rcases Int.lt_or_le k 100 with h | h
    · omega
    · refine (fresh_bound (s := s) hl fun j a b => ?_).elim
      by_cases e : j = (k - 1).toNat
      · subst e; exact hm
      · exact hc j (by omega) (by omega)
theorem FreshI.next {t : Str} (hI : FreshI l s t k) (h : hasS l t = true) (k3 : k ≤ 99) : FreshI l s (s.take (if 12 - ((Lib.itoa k).length : Int) < s.length then 12 - ((Lib.itoa k).length : Int) else s.length).toNat ++ Lib.itoa k) (k + 1) := by
  have hm : t ∈ l := by simpa [hasS] using h
  obtain ⟨h2, hx⟩ := hI
  have hl := itoa_len h2 k3
  have e1 : s.take (if 12 - ((Lib.itoa k).length : Int) < s.length then 12 - ((Lib.itoa k).length : Int) else s.length).toNat = s.take (12 - (Lib.itoa k).length) := by
    split
    · congr 1; omega
    · rw [List.take_of_length_le (by omega), List.take_of_length_le (by omega)]
  refine ⟨by omega, .inr ⟨by omega, by omega, ?_, ?_, ?_⟩⟩
  · rcases hx with ⟨_, rfl⟩ | ⟨_, _, h, _⟩
    · exact hm
    · exact h
  · rw [e1, cand_of h2 rfl, show k + 1 - 1 = k by omega]
  · intro j a b
    rcases hx with ⟨rfl, _⟩ | ⟨h3, _, _, rfl, hc⟩
    · omega
    · by_cases e : j = (k - 1).toNat
      · subst e; exact hm
      · exact hc j a (by omega)
theorem FreshI.end_ {t : Str} (hl : l.length ≤ 60) (hI : FreshI l s t k) (h : hasS l t = false) : t = freshS l s := by
  have hm : t ∉ l := by simpa [hasS] using h
  obtain ⟨h2, ⟨_, rfl⟩ | ⟨h3, h4, hin, rfl, hc⟩⟩ := hI
  · unfold freshS; rw [if_neg hm]
  · exact (fresh_char hin (by omega) (by omega) hc hm).symm
end
end Go.Sx
namespace Go.Sx
open Go
def cutS (s : Str) : Str × Str × Bool := Lib.cut s [46]
end Go.Sx

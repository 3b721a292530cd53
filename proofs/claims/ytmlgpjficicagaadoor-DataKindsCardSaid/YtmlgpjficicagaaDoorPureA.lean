import Derived.Test.YtmlgpjficicagaaDoorSxA
set_option linter.unusedVariables false
namespace Go.Sx
open Go
/-! ## the data, and what the functions of names compute -/
abbrev Str := List UInt8

theorem drop_of {α : Type} {l : List α} {n : Nat} {x : α} (h : l[n]? = some x) : l.drop n = x :: l.drop (n + 1) := by
  obtain ⟨hlt, rfl⟩ := List.getElem?_eq_some_iff.1 h
  exact List.drop_eq_getElem_cons hlt
theorem toNat_succ {k : Int} (h : 0 ≤ k) : (k + 1).toNat = k.toNat + 1 := by omega
theorem drop_end {α : Type} {l : List α} {k : Int} (h : ¬ k < l.length) : l.drop k.toNat = [] := List.drop_eq_nil_of_le (by omega)
theorem drop_at {α : Type} {l : List α} {k : Int} {x : α} (hk : 0 ≤ k) (h : l[k.toNat]? = some x) : l.drop k.toNat = x :: l.drop (k + 1).toNat := by
  rw [toNat_succ hk]; exact drop_of h

def letterB (c : UInt8) : Bool := decide ((97 : Int) ≤ c.toNat) && decide ((c.toNat : Int) ≤ 122)
def digitB (c : UInt8) : Bool := decide ((48 : Int) ≤ c.toNat) && decide ((c.toNat : Int) ≤ 57)
def nameC (c : UInt8) : Bool := letterB c || digitB c
def kw1 (s : Str) : Bool := (decide (s = [97, 110, 100]) || (decide (s = [97, 115]) || (decide (s = [97, 116]) || (decide (s = [98, 111, 111, 108]) || (decide (s = [99, 97, 108, 108]) || (decide (s = [99, 104, 97, 110]) || (decide (s = [100, 114, 111, 112]) || (decide (s = [101, 108, 115, 101]) || (decide (s = [101, 109, 112, 116, 121]) || (decide (s = [101, 110, 100]) || (decide (s = [102, 97, 105, 108]) || (decide (s = [102, 97, 108, 115, 101]) || decide (s = [102, 114, 111, 109])))))))))))))
def kw2 (s : Str) : Bool := (decide (s = [104, 101, 97, 114]) || (decide (s = [105, 102]) || (decide (s = [105, 110, 116]) || (decide (s = [106, 111, 105, 110]) || (decide (s = [108, 101, 110]) || (decide (s = [108, 101, 116]) || (decide (s = [108, 105, 115, 116]) || (decide (s = [108, 111, 99, 97, 108]) || (decide (s = [108, 111, 115, 116]) || (decide (s = [109, 111, 100]) || (decide (s = [110, 111, 116]) || (decide (s = [111, 112, 101, 110]) || decide (s = [111, 114])))))))))))))
def kw3 (s : Str) : Bool := (decide (s = [112, 114, 105, 110, 116]) || (decide (s = [112, 114, 111, 99]) || (decide (s = [112, 114, 111, 116, 111, 99, 111, 108]) || (decide (s = [112, 117, 115, 104]) || (decide (s = [114, 111, 108, 101, 115]) || (decide (s = [115, 97, 121]) || (decide (s = [115, 112, 97, 119, 110]) || (decide (s = [115, 116, 111, 112]) || (decide (s = [116, 101, 120, 116]) || (decide (s = [116, 111]) || (decide (s = [116, 114, 117, 101]) || (decide (s = [117, 110, 105, 116]) || decide (s = [119, 105, 116, 104])))))))))))))
def rkw1 (s : Str) : Bool := (decide (s = [97, 110, 100]) || (decide (s = [97, 115]) || (decide (s = [97, 116]) || (decide (s = [98, 111, 111, 108]) || (decide (s = [99, 97, 108, 108]) || (decide (s = [99, 104, 97, 110]) || (decide (s = [100, 114, 111, 112]) || (decide (s = [101, 108, 115, 101]) || (decide (s = [101, 109, 112, 116, 121]) || (decide (s = [101, 110, 100]) || (decide (s = [102, 97, 105, 108]) || (decide (s = [102, 97, 108, 115, 101]) || (decide (s = [102, 114, 111, 109]) || (decide (s = [104, 101, 97, 114]) || (decide (s = [105, 102]) || (decide (s = [105, 110, 116]) || (decide (s = [106, 111, 105, 110]) || (decide (s = [108, 101, 110]) || (decide (s = [108, 101, 116]) || decide (s = [108, 105, 115, 116]))))))))))))))))))))
def rkw2 (s : Str) : Bool := (decide (s = [108, 111, 99, 97, 108]) || (decide (s = [108, 111, 115, 116]) || (decide (s = [109, 111, 100]) || (decide (s = [110, 111, 116]) || (decide (s = [111, 112, 101, 110]) || (decide (s = [111, 114]) || (decide (s = [112, 114, 105, 110, 116]) || (decide (s = [112, 114, 111, 99]) || (decide (s = [112, 114, 111, 116, 111, 99, 111, 108]) || (decide (s = [112, 117, 115, 104]) || (decide (s = [114, 111, 108, 101, 115]) || (decide (s = [115, 97, 121]) || (decide (s = [115, 112, 97, 119, 110]) || (decide (s = [115, 116, 111, 112]) || (decide (s = [116, 101, 120, 116]) || (decide (s = [116, 111]) || (decide (s = [116, 114, 117, 101]) || (decide (s = [117, 110, 105, 116]) || decide (s = [119, 105, 116, 104])))))))))))))))))))
def keywordB (s : Str) : Bool := kw1 s || (kw2 s || kw3 s)
theorem rkw_eq (s : Str) : (rkw1 s || rkw2 s) = keywordB s := by
  simp only [rkw1, rkw2, keywordB, kw1, kw2, kw3, Bool.or_assoc]

def nameMay (s : Str) : Bool :=
  if (s.length : Int) < 1 then false else if (12 : Int) < s.length then false else if letterB (s.headD 0) = false then false else if keywordB s then false
  else (s.drop 1).all nameC

theorem headD_of {s : Str} {c : UInt8} (h : s[(0 : Int).toNat]? = some c) : s.headD 0 = c := by
  cases s with
  | nil => simp at h
  | cons a s => simpa using h

structure Typing where
  name : Str
  kind : Int
  at_ : Int
def Typing.cells (t : Typing) : List Value := [gs t.name, .int .i64 t.kind, .int .i64 t.at_]

structure Term where
  kind : Int
  name : Str
  n : Int
  text : Str
  l : Int
  r : Int
def Term.cells (t : Term) : List Value := [.int .i64 t.kind, gs t.name, .int .i64 t.n, gs t.text, .int .i64 t.l, .int .i64 t.r]

def i64ok (n : Int) : Prop := -9223372036854775808 ≤ n ∧ n ≤ 9223372036854775807
def Typing.ok (_ : Hp) (t : Typing) : Prop := t.name.length ≤ 9223372036854775807
def Term.ok (_ : Hp) (t : Term) : Prop := (t.name.length ≤ 9223372036854775807 ∧ t.text.length ≤ 9223372036854775807) ∧ i64ok t.n
theorem flatMap_get {α : Type} {enc : α → List Value} {k : Nat} : ∀ {l : List α}, (∀ x ∈ l, (enc x).length = k) → ∀ (i : Nat) (x : α), l[i]? = some x → ∀ j u, (enc x)[j]? = some u → (l.flatMap enc)[i * k + j]? = some u
  | [], _, i, x, hx, _, _, _ => by simp at hx
  | y :: l, hk, 0, x, hx, j, u, hu => by
    simp only [List.getElem?_cons_zero, Option.some.injEq] at hx
    subst hx
    have : j < (enc y).length := (List.getElem?_eq_some_iff.1 hu).1
    simp only [List.flatMap_cons, Nat.zero_mul, Nat.zero_add]
    rw [List.getElem?_append_left this]; exact hu
  | y :: l, hk, i + 1, x, hx, j, u, hu => by
    have h1 := hk y (by simp)
    simp only [List.flatMap_cons]
    rw [List.getElem?_append_right (by rw [h1, Nat.succ_mul]; omega), h1, show (i + 1) * k + j - k = i * k + j by rw [Nat.succ_mul]; omega]
    exact flatMap_get (fun z hz => hk z (List.mem_cons_of_mem _ hz)) i x (by simpa using hx) j u hu

/-- a slice over a block that was let go of -/
theorem RdSl.blk {α : Type} {H : Hp} {enc : α → List Value} {k b cap : Nat} {cs : List Value} {l : List α} (h : ∀ o v, cs[o]? = some v → H b o = some v) (hk : ∀ x ∈ l, (enc x).length = k) (hc : cs = l.flatMap enc)
    (hm : l.length ≤ 9223372036854775807) (hcap : l.length ≤ cap := by first | exact Nat.le_refl _ | omega | (simp; done) | (simp; omega)) : RdSl H k enc (.slice (some ⟨b, 0, none⟩) l.length cap) l := by
  subst hc
  refine ⟨⟨_, _, rfl⟩, hm, fun _ => ⟨_, rfl⟩, fun i x hx j u hu => ?_, fun a n c e => by injection e with _ _ e; omega⟩
  have := flatMap_get hk i x hx j u hu
  simp only [off, Nat.zero_add]
  exact h _ _ this
theorem RdSl.nil {α : Type} {H : Hp} {enc : α → List Value} {k : Nat} : RdSl H k enc (.slice none 0 0) [] :=
  ⟨⟨_, _, rfl⟩, by simp, fun h => absurd rfl h, fun i x hx => by simp at hx, fun a n c _ => by simp⟩
end Go.Sx

import Derived.Test.YtmlgpjficicagaaDoorPureV
import Derived.Test.YtmlgpjficicagaaDoorSxB
set_option linter.unusedVariables false
set_option linter.unusedSimpArgs false
namespace Go.Sx
open Go
/-! ## tokens: what both lexers compute -/
structure Token where
  kind : Int
  text : Str
  at_ : Int
def Token.cells (t : Token) : List Value := [.int .i64 t.kind, gs t.text, .int .i64 t.at_]
instance : Cells 3 Token.cells := ⟨fun _ => rfl, by decide, fun _ => rfl⟩
def Token.ok (_ : Hp) (t : Token) : Prop := t.text.length ≤ 9223372036854775807

def hexB (c : UInt8) : Bool := digitB c || (decide ((97 : Int) ≤ c.toNat) && decide ((c.toNat : Int) ≤ 102))
def worthB (c : UInt8) : UInt8 := if digitB c then c - 48 else c - 97 + 10
/-- how many bytes at the head are of a kind -/
def runL (p : UInt8 → Bool) : Str → Nat
  | [] => 0
  | c :: s => if p c then runL p s + 1 else 0
def stepN (u : Nat) (c : UInt8) : Nat := u * 10 + (c.toNat - 48)
def natS (s : Str) : Nat := s.foldl stepN 0
/-- a numeral behind its sign -/
def magS (s : Str) : Str := if s.head? = some 45 then s.drop 1 else s
def inR (s : Str) : Bool := decide (if s.head? = some 45 then natS (magS s) ≤ 9223372036854775808 else natS (magS s) < 9223372036854775808)
/-- is a text a number's -/
def numeralB (s : Str) : Bool := !(magS s).isEmpty && ((magS s).all digitB && (!(decide ((magS s).head? = some 48) && decide (1 < (magS s).length)) && (!decide (s = [45, 48]) && inR s)))
def closedB (t : Token) : Bool := if t.kind = 0 then !keywordB t.text else if t.kind = 1 then true else if t.kind = 2 then true else decide (t.text = [41])
def oneSign (c : UInt8) : Bool := [40, 41, 123, 125, 44, 59, 58, 46, 61, 60, 43, 45, 42, 47].contains c
/-- how long the sign at the head is -/
def signL : Str → Nat
  | [] => 0
  | c :: r => if (c = 61 ∧ r.head? = some 61) ∨ (c = 45 ∧ r.head? = some 62) then 2 else if oneSign c then 1 else 0
def plainB (c : UInt8) : Bool := decide (32 ≤ c.toNat) && decide (c.toNat ≤ 126)
def pre (o : Str) (q : Option (Str × Str)) : Option (Str × Str) := q.map fun x => (o ++ x.1, x.2)
/-- behind the opening quote: the text, and what is left -/
def quoteL : Str → Option (Str × Str)
  | [] => none
  | c :: r =>
    if c = 34 then some ([], r)
    else if c = 92 then
      match r with
      | [] => none
      | e :: r2 =>
        if e = 34 ∨ e = 92 then pre [e] (quoteL r2)
        else if e = 110 then pre [10] (quoteL r2)
        else if e = 120 then
          match r2 with
          | a :: b :: r3 => if hexB a && hexB b then pre [16 * worthB a + worthB b] (quoteL r3) else none
          | _ => none
        else none
    else if plainB c then pre [c] (quoteL r) else none
def quotedC (c : UInt8) : Str := if c = 34 ∨ c = 92 then [92, c] else if c = 10 then [92, 110] else if plainB c then [c] else [92, 120, hexC (c / 16), hexC (c % 16)]
where hexC (d : UInt8) : UInt8 := if d < 10 then 48 + d else 87 + d
def quotedL (s : Str) : Str := 34 :: (s.flatMap quotedC ++ [34])
/-- a token at the head: an error, or kind, text and length -/
inductive Tk | err (e : Int) | ok (k : Int) (t : Str) (n : Nat)
def qTk (n : Nat) : Option (Str × Str) → Tk
  | none => .err 203
  | some (t, r2) => .ok 2 t (n + 1 - r2.length)
theorem qTk_ok {n : Nat} {q : Option (Str × Str)} {k : Int} {t : Str} {m : Nat} (h : qTk n q = .ok k t m) : ∃ r2, q = some (t, r2) ∧ k = 2 ∧ m = n + 1 - r2.length := by
  cases q with
  | none => cases h
  | some x => obtain ⟨x, r2⟩ := x; simp only [qTk, Tk.ok.injEq] at h; exact ⟨r2, by rw [h.2.1], h.1.symm, h.2.2.symm⟩
theorem qTk_err {n : Nat} {q : Option (Str × Str)} {e : Int} (h : qTk n q = .err e) : e = 203 := by
  cases q with
  | none => cases h; rfl
  | some x => cases h
def tok1 (after : Bool) : Str → Tk
  | [] => .err 201
  | c :: r =>
    if letterB c then let n := runL nameC (c :: r); .ok 0 ((c :: r).take n) n
    else if digitB c || (decide (c = 45) && ((r.head?.map digitB).getD false && !after)) then
      let n := runL digitB r + 1
      if numeralB ((c :: r).take n) then .ok 1 ((c :: r).take n) n else .err 202
    else if c = 34 then qTk r.length (quoteL r)
    else
      let n := signL (c :: r)
      if n = 0 then .err 201 else .ok 3 ((c :: r).take n) n
def blankB (c : UInt8) : Bool := decide (c = 32) || (decide (c = 9) || decide (c = 10))
structure LexR where
  l : List Token
  at_ : Int
  e : Int
def LexR.after (l : List Token) (r : LexR) : LexR := if r.e = 0 then ⟨l ++ r.l, r.at_, r.e⟩ else r
/-- from a place on (after: the token ahead ends a term), by fuel -/
def lexF : Nat → Bool → Int → Str → LexR
  | 0, _, _, _ => ⟨[], 0, 0⟩
  | _ + 1, _, _, [] => ⟨[], 0, 0⟩
  | f + 1, after, a, c :: r =>
    if blankB c then lexF f after (a + 1) r
    else if c = 35 then let n := runL (fun c => !decide (c = 10)) (c :: r); lexF f after (a + n) ((c :: r).drop n)
    else match tok1 after (c :: r) with
      | .err e => ⟨[], a, e⟩
      | .ok k t n => LexR.after [⟨k, t, a⟩] (lexF f (closedB ⟨k, t, a⟩) (a + n) ((c :: r).drop n))
def lexS (s : Str) : LexR := if 16384 < (s.length : Int) then ⟨[], 0, 200⟩ else lexF s.length false 0 s
def rightB (t : Token) : Bool :=
  if t.kind = 0 then !t.text.isEmpty && (letterB (t.text.headD 0) && decide (runL nameC t.text = t.text.length))
  else if t.kind = 1 then numeralB t.text
  else if t.kind = 2 then true
  else if t.kind = 3 then !t.text.isEmpty && decide (signL t.text = t.text.length)
  else false
def badW (prev : Option Token) (t : Token) : Bool := !rightB t || (decide (t.kind = 1) && (decide (t.text.head? = some 45) && ((prev.map closedB).getD false)))
def bodyW (t : Token) : Str := if t.kind = 2 then quotedL t.text else t.text
/-- the rest is written behind a token -/
def writeF : Option Token → List Token → Option Str
  | _, [] => some []
  | p, t :: l => if badW p t then none else (writeF (some t) l).map fun s => (if p.isSome then [32] else []) ++ (bodyW t ++ s)
def writeS (l : List Token) : Str × Int := match writeF none l with | none => ([], 204) | some s => (s, 0)
/-! ### small laws -/
theorem runL_le (p : UInt8 → Bool) : ∀ s : Str, runL p s ≤ s.length
  | [] => Nat.le_refl _
  | c :: s => by
    unfold runL
    have := runL_le p s
    split <;> simp <;> omega
theorem runL_take (p : UInt8 → Bool) : ∀ s : Str, (s.take (runL p s)).all p = true
  | [] => rfl
  | c :: s => by
    unfold runL
    split
    · rename_i h
      simp only [List.take_succ_cons, List.all_cons, h, runL_take p s, Bool.and_self]
    · rfl
theorem runL_at {p : UInt8 → Bool} : ∀ {s : Str} {c : UInt8}, s[runL p s]? = some c → p c = false
  | [], c, h => by simp at h
  | d :: s, c, h => by
    unfold runL at h
    split at h
    · exact runL_at (s := s) (by simpa using h)
    · rename_i hp
      simp at h
      subst h
      simpa using hp
theorem tok1_cons (after : Bool) (c : UInt8) (r : Str) : tok1 after (c :: r) =
    if letterB c then .ok 0 ((c :: r).take (runL nameC (c :: r))) (runL nameC (c :: r))
    else if digitB c || (decide (c = 45) && ((r.head?.map digitB).getD false && !after)) then (if numeralB ((c :: r).take (runL digitB r + 1)) then .ok 1 ((c :: r).take (runL digitB r + 1)) (runL digitB r + 1) else .err 202)
    else if c = 34 then qTk r.length (quoteL r)
    else if signL (c :: r) = 0 then .err 201 else .ok 3 ((c :: r).take (signL (c :: r))) (signL (c :: r)) := rfl
theorem signL_cons (c : UInt8) (r : Str) : signL (c :: r) = if (c = 61 ∧ r.head? = some 61) ∨ (c = 45 ∧ r.head? = some 62) then 2 else if oneSign c then 1 else 0 := rfl
theorem quoteL_q (r : Str) : quoteL (34 :: r) = some ([], r) := by
  rw [quoteL.eq_def]; simp
theorem quoteL_esc {e : UInt8} (h : e = 34 ∨ e = 92) (r : Str) : quoteL (92 :: e :: r) = pre [e] (quoteL r) := by
  rw [quoteL.eq_def]; simp [h]
theorem quoteL_n (r : Str) : quoteL (92 :: 110 :: r) = pre [10] (quoteL r) := by
  rw [quoteL.eq_def]; simp
theorem quoteL_x (a b : UInt8) (r : Str) : quoteL (92 :: 120 :: a :: b :: r) = if hexB a && hexB b then pre [16 * worthB a + worthB b] (quoteL r) else none := by
  rw [quoteL.eq_def]; simp
theorem quoteL_x0 : quoteL [92, 120] = none := by
  rw [quoteL.eq_def]; simp
theorem quoteL_x1 (a : UInt8) : quoteL [92, 120, a] = none := by
  rw [quoteL.eq_def]; simp
theorem quoteL_0 : quoteL [92] = none := by
  rw [quoteL.eq_def]; simp
theorem quoteL_no {e : UInt8} (h : ¬ (e = 34 ∨ e = 92)) (h1 : ¬ e = 110) (h2 : ¬ e = 120) (r : Str) : quoteL (92 :: e :: r) = none := by
  rw [quoteL.eq_def]; simp [h, h1, h2]
theorem quoteL_plain {c : UInt8} (h1 : ¬ c = 34) (h2 : ¬ c = 92) (r : Str) : quoteL (c :: r) = if plainB c then pre [c] (quoteL r) else none := by
  rw [quoteL.eq_def]; simp [h1, h2]
theorem quoteL_len : ∀ {s t r : Str}, quoteL s = some (t, r) → r.length < s.length
  | [], _, _, h => by simp [quoteL] at h
  | c :: s, t, r, h => by
    unfold quoteL at h
    split at h
    · simp at h
      obtain ⟨_, rfl⟩ := h
      simp
    split at h
    · split at h
      · cases h
      rename_i e r2
      split at h
      · obtain ⟨x, hx, he⟩ := Option.map_eq_some_iff.1 h
        have := quoteL_len (t := x.1) (r := x.2) hx
        simp at he; obtain ⟨_, rfl⟩ := he
        simp; omega
      split at h
      · obtain ⟨x, hx, he⟩ := Option.map_eq_some_iff.1 h
        have := quoteL_len (t := x.1) (r := x.2) hx
        simp at he; obtain ⟨_, rfl⟩ := he
        simp; omega
      split at h
      · split at h
        · rename_i a b r3
          split at h
          · obtain ⟨x, hx, he⟩ := Option.map_eq_some_iff.1 h
            have := quoteL_len (t := x.1) (r := x.2) hx
            simp at he; obtain ⟨_, rfl⟩ := he
            simp; omega
          · cases h
        · cases h
      · cases h
    · split at h
      · obtain ⟨x, hx, he⟩ := Option.map_eq_some_iff.1 h
        have := quoteL_len (t := x.1) (r := x.2) hx
        simp at he; obtain ⟨_, rfl⟩ := he
        simp; omega
      · cases h
end Go.Sx

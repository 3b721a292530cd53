import Derived.Test.YtilggjefbbiccaaDoorSx4
set_option linter.unusedSimpArgs false
set_option linter.unusedVariables false
namespace Go.Sx
open Go

/-! ## a switch's row of constants -/
def SwPost (n : Nat) (s : Nat) (b : Bool) (K : Env) (C : World → Prop) : Act → World → Prop := fun a w => EOk n ((s, .bool b) :: K) a ∧ C w

section
variable {P : Program} {n : Nat} {Q : Exit → Act → World → Prop} {E K : Env} {C : World → Prop} {s s1 id : Nat} {x : Operand} {t t' ty ty' : TypeId} {pos pos' : String} {aft aft' : Array Edge} {k : IntKind} {rest : Code} {b : Bool}

theorem TC.sw {x y : Code} (b : Bool) (s : Nat) (K : Env) (hK : Sub K E) (hx : TC P n x (Exit.then (SwPost n s b K C) Q) E C) (hy : TC P n y Q ((s, .bool b) :: K) C) : TC P n (.seq x y) Q E C := by
  intro a w he hw
  refine wp_seq (Code.wp_mono ?_ (hx a w he hw))
  intro e a' w' hq
  cases e with
  | normal => exact hy a' w' hq.1 hq.2
  | exit id => exact hq
  | goto l => exact hq
  | ret => exact hq
  | panic ch => exact hq
  | outgrown => exact hq

theorem TX.sw {b' : Bool} (hs : lk E s = some (.bool b')) (hb : b' = b) (hK : Sub K E) : TX n (Exit.then (SwPost n s b K C) Q .normal) E C := by
  subst hb
  intro a w he hw
  exact ⟨he.sub (E' := (s, .bool b') :: K) ⟨hs, hK⟩, hw⟩

theorem TC.swG {op : Op} {bc : Bool} (hr : PR P E C op (.bool bc)) (h1 : fits (some s1) n = true) (h2 : fits (some s) n = true)
    (hK : Sub K ((s, .bool bc) :: (s1, .bool bc) :: E)) (h : TC P n rest (Exit.then (SwPost n s b K C) Q) ((s, .bool bc) :: (s1, .bool bc) :: E) C) :
    TC P n (.seq (.region id [{ dst := some s1, op := op, type := ty, pos := pos, after := aft, guard := none }, { dst := some s, op := .assign (.tmp s1), type := ty', pos := pos', after := aft', guard := none }].toArray false) (.cond (.tmp s) .skip rest))
      (Exit.then (SwPost n s (bc || b) K C) Q) E C := by
  refine TC.seq (TC.region (TL.run hr h1 (TL.run (v := .bool bc) (pr_pure (by simp [pure1, ev, putE, lk])) h2 (TL.nil (TX.seqN ?_)))))
  refine TC.cond (b := bc) (by simp [ev, putE, lk]) (fun hc => ?_) (fun hc => ?_)
  · subst hc
    exact TC.skip (TX.sw (b' := true) (by simp [putE, lk]) (by simp) hK)
  · subst hc
    simp only [Bool.false_or]
    exact h

theorem TC.swE {op : Op} {bc : Bool} (hr : PR P E C op (.bool bc)) (h1 : fits (some s1) n = true) (h2 : fits (some s) n = true)
    (hK : Sub K ((s, .bool bc) :: (s1, .bool bc) :: E)) :
    TC P n (.region id [{ dst := some s1, op := op, type := ty, pos := pos, after := aft, guard := none }, { dst := some s, op := .assign (.tmp s1), type := ty', pos := pos', after := aft', guard := none }].toArray false)
      (Exit.then (SwPost n s bc K C) Q) E C :=
  TC.region (TL.run hr h1 (TL.run (v := .bool bc) (pr_pure (by simp [pure1, ev, putE, lk])) h2 (TL.nil (TX.sw (b' := bc) (by simp [putE, lk]) rfl hK))))

end

/-! ## more operations -/
section
variable {P : Program} {E : Env} {M : List Nat} {w0 : World} {H0 H : Hp} {L : Blks} {C : World → Prop}

theorem pr_bool {op : BinOp} {t t' : TypeId} {x y : Operand} {a b c : Bool} (hx : ev E x = some (.bool a)) (hy : ev E y = some (.bool b)) (h : (match op with | .eql => some (decide (a = b)) | .neq => some (!decide (a = b)) | _ => none) = some c) [hu : Und P t .bool] : PR P E C (.binOp op t x y t') (.bool c) := by
  intro n ac w o ho he hw
  unfold execOp
  rw [ho]
  have hbeq : (a == b) = decide (a = b) := by cases a <;> cases b <;> rfl
  cases op <;> simp only [Option.some.injEq, reduceCtorEq] at h <;> subst h
  · simp [he.eval hx, he.eval hy, eqGuard_at_bool, run_eql_bool w t a b hu.out, hbeq]
  · simp [he.eval hx, he.eval hy, eqGuard_at_bool, run_neq_bool w t a b hu.out, hbeq]

/-- a struct or an array out of its parts, each of one cell -/
theorem pr_strIx {t : TypeId} {x y : Operand} {l : List UInt8} {kd : IntKind} {i : Int} {c : UInt8} (hx : ev E x = some (gs l)) (hy : ev E y = some (.int kd i)) [hu : Und P t .string] (h0 : 0 ≤ i) (hc : l[i.toNat]? = some c) :
    PR P E C (.index t x y) (.int .u8 c.toNat) := by
  intro n a w o' ho he hw
  unfold execOp
  rw [ho]
  have hlt := (List.getElem?_eq_some_iff.1 hc)
  have hsz : i.toNat < l.toArray.size := by simpa using hlt.1
  have hget : (ByteArray.mk l.toArray)[i.toNat]? = some c := by
    obtain ⟨h1, h2⟩ := hlt
    have hb : i.toNat < (ByteArray.mk l.toArray).size := by simpa [ByteArray.size] using h1
    rw [getElem?_pos (ByteArray.mk l.toArray) i.toNat hb, ← h2]
    show some (l.toArray[i.toNat]'(by simpa using h1)) = _
    simp
  simp [he.eval hx, he.eval hy, gs, Instr.index, asIntOf, run_underlying hu.out, h0, hget]

end
end Go.Sx

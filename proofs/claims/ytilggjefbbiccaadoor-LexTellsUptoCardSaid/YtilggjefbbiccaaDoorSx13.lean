import Derived.Test.YtilggjefbbiccaaDoorSx12
set_option linter.unusedSimpArgs false
set_option linter.unusedVariables false
namespace Go.Sx
open Go

section
variable {P : Program} {n : Nat} {ops : Array Oper} {Q : Exit → Act → World → Prop} {E : Env} {M : List Nat} {w0 : World} {H0 H : Hp} {L : Blks} {C : World → Prop} {rest : List Oper} {dst : Option Nat} {op : Op} {ty : TypeId} {pos : String} {aft : Array Edge}

/-- a guarded operation that is wanted goes as one without a guard -/
theorem TL.gd {j s : Nat} {b : Bool} (hj : dstOf ops j = some s) (hb : lk E s = some (.bool b)) (h : TL P n ops Q ({ dst := dst, op := op, type := ty, pos := pos, after := aft, guard := none } :: rest) E C) :
    TL P n ops Q ({ dst := dst, op := op, type := ty, pos := pos, after := aft, guard := some (j, b) } :: rest) E C := by
  intro a w he hw
  have h1 := h a w he hw
  have hy := yielded_of he hj hb
  simp only [wpW] at h1 ⊢
  simp only [Region.wanted, hy, BEq.rfl, if_true] at h1 ⊢
  exact h1

theorem run_bslice {t e k bs : Nat} {z ds : List Value} {len : Nat} {parts : Array (Nat × Operand)} {vs : List (Nat × Value)} (hv : evParts E parts.toList = some vs) [he : Elz P t e k bs z] (hlen : Nat.ble (len * k) 16777216 = true)
    (hf : fillL (fun i => some (i * k, k)) (reps len z) vs = some ds) {a : Act} {w : World} (hE : EOk n E a) :
    (execOp a.eval { dst := dst, op := .buildSlice t len parts, type := ty, pos := pos, after := aft, guard := none }).run P w = .ok (.value (.slice (some ⟨w.heap.size, 0, none⟩) len len)) (w.alloc (.cells ds.toArray e)) := by
  obtain ⟨hu, i, v, hi, h1, h2, h3, h4⟩ := he.und
  have hk := he.len
  have hl := Nat.le_of_ble_eq_true hlen
  have hparts : (parts.map fun (x : Nat × Operand) => (x.1, a.eval x.2)).toList = vs := by
    rw [Array.toList_map]; exact hE.parts hv
  have hkz : v.cells.size = k := by rw [← hk, ← h4]; simp
  have hm : madeCells v.cells (len * k) = (reps len z).toArray := by
    apply Array.ext'
    rw [← hkz, madeCells_reps, h4]
  have hfill : Instr.fill (fun i => some (i * k, k)) (madeCells v.cells (len * k)) vs = some ds.toArray := fill_eq _ vs _ ds (by rw [hm]; exact hf)
  have hsz : (sizeOf e).run P w = .ok k w := by simp [sizeOf, typeInfo, hi, h1]
  have hz0 : (zeroValue e).run P w = .ok v w := by simp [zeroValue, typeInfo, hi, h3]
  have hn : ¬ len * k > 2 ^ 24 := by omega
  have hfill0 := hfill
  unfold madeCells at hfill
  by_cases h0 : len * k = 0
  · have hfill' : Instr.fill (fun i => some (i * k, k)) #[] vs = some ds.toArray := by
      rw [h0, Array.range_zero'] at hfill
      simpa using hfill
    have h0' : len = 0 ∨ k = 0 := Nat.mul_eq_zero.1 h0
    simp [execOp, Instr.buildSlice, run_underlying hu, hsz, h0, h0', hE.parts hv, hfill', newRow, Array.range_zero']
  · simp [execOp, Instr.buildSlice, run_underlying hu, hsz, h0, hz0, hn, hE.parts hv, hfill, newRow]

theorem TF.bslice {rest : List (Nat × Oper)} {t e k bs : Nat} {z ds : List Value} {len : Nat} {parts : Array (Nat × Operand)} {vs : List (Nat × Value)} (hv : evParts E parts.toList = some vs) [he : Elz P t e k bs z] (hlen : Nat.ble (len * k) 16777216 = true)
    (hf : fillL (fun i => some (i * k, k)) (reps len z) vs = some ds) (hd : fits dst n = true)
    (h : ∀ b, TF P n ops Q rest (putE dst (.slice (some ⟨b, 0, none⟩) len len) E) (St M w0 H0 H ((b, ds) :: L))) :
    TF P n ops Q ((3, { dst := dst, op := .buildSlice t len parts, type := ty, pos := pos, after := aft, guard := none }) :: rest) E (St M w0 H0 H L) := by
  refine TF.ext rfl fun a w hE hw => ?_
  unfold Oper.wp
  rw [run_bslice hv hlen hf hE]
  exact ⟨Ext.alloc _ _, h _ _ _ (hE.put hd) (hw.alloc ds e)⟩
theorem TF.callO {rest : List (Nat × Oper)} {f : FuncId} {args : List Value} {Φ : Value → Hp → Blks → Prop} (hE : Enters P E op f args) (hF : FnO P f args H Φ) (hd : fits dst n = true)
    (h : ∀ v H' ob, H.le H' → Φ v H' ob → TF P n ops Q rest (putE dst v E) (St M w0 H0 H' (L ++ ob))) :
    TF P n ops Q ((3, { dst := dst, op := op, type := ty, pos := pos, after := aft, guard := none }) :: rest) E (St M w0 H0 H L) := by
  refine TF.ext rfl fun a w he hw => ?_
  unfold Oper.wp
  rw [hE n a w _ rfl he]
  refine (hF w (St.pass1 (L1 := []) (L2 := L) hw)).mono ?_
  rintro e w' ⟨v, H', ob, rfl, hst, hΦ⟩
  exact ⟨Ext.of hst, h v H' ob hst.fr.1 hΦ _ _ (he.put hd) (hw.pastO hst)⟩
theorem TF.callOY {rest : List (Nat × Oper)} {f j s : Nat} {b : Bool} {args : List Value} {Φ : Value → Hp → Blks → Prop} (hj : dstOf ops j = some s) (hb : lk E s = some (.bool b)) (hE : Enters P E op f args) (hF : FnO P f args H Φ) (hd : fits dst n = true)
    (h : ∀ v H' ob, H.le H' → Φ v H' ob → TF P n ops Q rest (putE dst v E) (St M w0 H0 H' (L ++ ob))) :
    TF P n ops Q ((3, { dst := dst, op := op, type := ty, pos := pos, after := aft, guard := some (j, b) }) :: rest) E (St M w0 H0 H L) := TF.gd hj hb (TF.callO hE hF hd h)

/-- H without block b -/
def Hp.del (H : Hp) (b : Nat) : Hp := fun b' o => if b' = b then none else H b' o
theorem Hp.del_le {H : Hp} {b : Nat} : (H.del b).le H := fun k o v h => by
  unfold Hp.del at h
  split at h
  · cases h
  · exact h
theorem RdSl.empty {α : Type} {H H' : Hp} {k : Nat} {enc : α → List Value} {v : Value} {l : List α} (h : RdSl H k enc v l) (hl : l = []) : RdSl H' k enc v l := by
  subst hl
  exact ⟨h.len, h.max, fun h => absurd rfl h, fun i x hx => by simp at hx, h.room⟩
/-- what may be read in H may be read without block b, where it lies elsewhere -/
theorem RdSl.del {α : Type} {H : Hp} {k b : Nat} {enc : α → List Value} {v : Value} {l : List α} (h : RdSl H k enc v l) (hb : blk v ≠ b) : RdSl (H.del b) k enc v l :=
  ⟨h.len, h.max, h.addr, fun i x hx j u hu => by unfold Hp.del; rw [if_neg hb]; exact h.get i x hx j u hu, h.room⟩

/-- the front block is lent to a callee that leaves all that was there; it comes back -/
theorem St.lend {w w' : World} {b : Nat} {cs : List Value} {R : Blks} {H1 : Hp} (h : St M w0 H0 H ((b, cs) :: R) w) (hbM : b ∉ M) (h' : St [] w (H.add b cs) H1 [] w') : St M w0 H0 (H1.del b) ((b, cs) :: R) w' := by
  have hnd := h.nd
  simp only [List.map_cons, List.nodup_cons] at hnd
  have hb : w.heap.size > b := h.lt (p := (b, cs)) (by simp)
  have hHb : ∀ o, H b o = none := fun o => h.sep (b, cs) (by simp) o
  have hle : H.le (H1.del b) := fun k o v hv => by
    have hk : k ≠ b := by rintro rfl; rw [hHb o] at hv; cases hv
    unfold Hp.del; rw [if_neg hk]
    refine h'.fr.1 _ _ _ ?_
    simp only [Hp.add, hk, if_false]; exact hv
  refine ⟨h'.os.trans h.os, h'.tape.trans h.tape, h'.output.trans h.output, Nat.le_trans h.size h'.size, fun k hk hM => ?_, fun k o v hv => h'.hp _ _ _ (Hp.del_le _ _ _ hv), fun p hp => ?_, fun p hp o => ?_, h.nd, h.mine, h.fr.1.trans hle, fun k o v hv hn => ?_⟩
  · exact (h'.old k (by have := h.size; omega) (by simp)).trans (h.old k hk hM)
  · obtain ⟨t, ht⟩ := h.own p hp
    exact ⟨t, (h'.old _ (lt_of_cells ht) (by simp)).trans ht⟩
  · unfold Hp.del
    split
    · rfl
    · rename_i hk
      cases ho : H1 p.1 o with
      | none => rfl
      | some v =>
        have h0 : (H.add b cs) p.1 o = none := by simp only [Hp.add, hk, if_false]; exact h.sep p hp o
        have h1 := h'.fr.2 _ _ _ ho h0
        have h2 := h.lt hp
        omega
  · have hv' := Hp.del_le _ _ _ hv
    have hk : k ≠ b := by
      rintro rfl
      unfold Hp.del at hv; rw [if_pos rfl] at hv; cases hv
    cases hH : (H.add b cs) k o with
    | none => have := h'.fr.2 _ _ _ hv' hH; have := h.size; omega
    | some u =>
      simp only [Hp.add, hk, if_false] at hH
      exact h.fr.2 _ _ _ hH hn

theorem TL.callLend {f : FuncId} {args : List Value} {Φ : Value → Hp → Prop} {b : Nat} {cs : List Value} {R : Blks} (hbM : b ∉ M) (hE : Enters P E op f args) (hF : ∀ H2, H.le H2 → (∀ o v, cs[o]? = some v → H2 b o = some v) → Fn P f args H2 Φ) (hd : fits dst n = true)
    (h : ∀ v H', H.le H' → (∃ H1, H'.le H1 ∧ Φ v H1) → TL P n ops Q rest (putE dst v E) (St M w0 H0 H' ((b, cs) :: R))) :
    TL P n ops Q ({ dst := dst, op := op, type := ty, pos := pos, after := aft, guard := none } :: rest) E (St M w0 H0 H ((b, cs) :: R)) := by
  intro a w he hw
  refine wpW_plain rfl (fun K hK => ?_)
  unfold Oper.wp
  rw [hE n a w _ rfl he]
  have hp := hw.publish hbM
  refine (hF (H.add b cs) hw.le_add (fun o v hv => by simp [Hp.add, hv]) w (St.pass1 (L1 := []) (L2 := R) hp)).mono ?_
  rintro e w' ⟨v, H1, L1', rfl, hst, hk, hΦ⟩
  have : L1' = [] := by cases L1' with | nil => rfl | cons x l => cases hk
  subst this
  have hl := hw.lend hbM hst
  have hHb : ∀ o, H b o = none := fun o => hw.sep (b, cs) (by simp) o
  refine hK _ _ (h v (H1.del b) (fun k o u hu => ?_) ⟨H1, Hp.del_le, hΦ⟩ _ _ (he.put hd) hl)
  have hk : k ≠ b := by rintro rfl; rw [hHb o] at hu; cases hu
  unfold Hp.del; rw [if_neg hk]
  refine hst.fr.1 _ _ _ ?_
  simp only [Hp.add, hk, if_false]; exact hu
end
end Go.Sx

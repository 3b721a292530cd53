import Derived.Test.YtilggjefbbiccaaDoorSx5
import Derived.LoopN
set_option linter.unusedSimpArgs false
set_option linter.unusedVariables false
namespace Go.Sx
open Go

/-! ## a loop, one round laid out -/
theorem TC.unroll {P : Program} {n : Nat} {c : Code} {Q : Exit → Act → World → Prop} {E : Env} {C : World → Prop} (m : Nat) (h : ∀ a w, EOk n E a → C w → Code.rounds P c Q m a w) : TC P n (.loop c) Q E C :=
  fun a w he hw => wp_loop_rounds m (h a w he hw)
/-- 'm' rounds are left -/
def TR (P : Program) (n : Nat) (c : Code) (Q : Exit → Act → World → Prop) (m : Nat) (E : Env) (C : World → Prop) : Prop := ∀ a w, EOk n E a → C w → Code.rounds P c Q m a w
theorem TC.rounds {P : Program} {n : Nat} {c : Code} {Q : Exit → Act → World → Prop} {E : Env} {C : World → Prop} (m : Nat) (h : TR P n c Q m E C) : TC P n (.loop c) Q E C := TC.unroll m h
theorem TR.succ {P : Program} {n : Nat} {c : Code} {Q : Exit → Act → World → Prop} {E : Env} {C : World → Prop} {m : Nat} (h : TC P n c (Exit.then (Code.rounds P c Q m) Q) E C) : TR P n c Q (m + 1) E C := fun a w he hw => by
  rw [rounds_succ]; exact h a w he hw
theorem TX.rnd {P : Program} {n : Nat} {c : Code} {Q : Exit → Act → World → Prop} {E : Env} {C : World → Prop} {m : Nat} (h : TR P n c Q m E C) : TX n (Exit.then (Code.rounds P c Q m) Q .normal) E C := h

/-! ## literals -/
def fillL (pl : Nat → Option (Nat × Nat)) : List Value → List (Nat × Value) → Option (List Value)
  | cs, [] => some cs
  | cs, (i, v) :: r => match pl i with
    | some (off, size) => match Nat.beq v.cells.toList.length size && Nat.ble (off + size) cs.length with
      | true => fillL pl (setCells cs off v.cells.toList) r
      | false => none
    | none => none

theorem foldl_setCells (off : Nat) : ∀ (vs : List Value) (j : Nat) (cs : Array Value),
    ((vs.zipIdx j).foldl (fun cs (x : Value × Nat) => cs.setIfInBounds (off + x.2) x.1) cs).toList = setCells cs.toList (off + j) vs
  | [], _, _ => rfl
  | v :: vs, j, cs => by
    simp only [List.zipIdx_cons, List.foldl_cons, setCells]
    rw [foldl_setCells off vs (j + 1)]
    simp [Nat.add_assoc]

theorem fill_eq (pl : Nat → Option (Nat × Nat)) : ∀ (ps : List (Nat × Value)) (cs : Array Value) (ds : List Value), fillL pl cs.toList ps = some ds → Instr.fill pl cs ps = some ds.toArray
  | [], cs, ds, h => by
    simp only [fillL, Option.some.injEq] at h
    subst h
    simp [Instr.fill]
  | (i, v) :: r, cs, ds, h => by
    simp only [fillL] at h
    split at h
    · rename_i off size hp
      split at h
      · rename_i hb
        simp only [Bool.and_eq_true] at hb
        have h1 := Nat.eq_of_beq_eq_true hb.1
        have h2 := Nat.le_of_ble_eq_true hb.2
        simp only [Array.length_toList] at h1 h2
        have hne : ¬ (v.cells.size ≠ size ∨ off + v.cells.size > cs.size) := by omega
        have hf : (v.cells.zipIdx.foldl (fun cs x => cs.setIfInBounds (off + x.2) x.1) cs).toList = setCells cs.toList off v.cells.toList := by
          have := foldl_setCells off v.cells.toList 0 cs
          rw [Nat.add_zero] at this
          rw [← this, ← Array.foldl_toList]
          simp
        rw [← hf] at h
        have ih := fill_eq pl r _ _ h
        simp only [Instr.fill, hp]
        simp only [show (decide (v.cells.size ≠ size) || decide (off + v.cells.size > cs.size)) = false from by simp; omega]
        exact ih
      · cases h
    · cases h

def evParts (E : Env) : List (Nat × Operand) → Option (List (Nat × Value))
  | [] => some []
  | (i, x) :: r => match ev E x with
    | some v => match evParts E r with
      | some vs => some ((i, v) :: vs)
      | none => none
    | none => none

theorem EOk.parts {n : Nat} {E : Env} {a : Act} (h : EOk n E a) : ∀ {ps : List (Nat × Operand)} {vs : List (Nat × Value)}, evParts E ps = some vs → ps.map (fun p => (p.1, a.eval p.2)) = vs
  | [], vs, hx => by simp only [evParts, Option.some.injEq] at hx; simp [← hx]
  | (i, x) :: xs, vs, hx => by
    simp only [evParts] at hx
    split at hx
    · rename_i v hv
      split at hx
      · rename_i us hus
        simp only [Option.some.injEq] at hx
        subst hx
        simp [h.eval hv, h.parts hus]
      · cases hx
    · cases hx

/-- where the parts of a struct or an array lie -/
def plcB (P : Program) (t : TypeId) : Option (List (Nat × Nat)) := match P.underlying t with
  | some (.struct fs) => fs.toList.mapM fun f => (P.info? f.type).map fun i => (f.offset, i.size)
  | _ => none
class Plc (P : Program) (t : TypeId) (pl : outParam (List (Nat × Nat))) : Prop where
  out : plcB P t = some pl
/-- .. of an array: each element's size -/
def plaB (P : Program) (t : TypeId) : Option Nat := match P.underlying t with
  | some (.array _ e) => match P.info? e with
    | some i => some i.size
    | none => none
  | _ => none
class Pla (P : Program) (t : TypeId) (k : outParam Nat) : Prop where
  out : plaB P t = some k

theorem zero_info {P : Program} {t : TypeId} {cs : List Value} (h : Zero P t cs) : ∃ i z, P.info? t = some i ∧ i.zero = some z ∧ z.cells.toList = cs := by
  have := h.out
  unfold zeroB at this
  split at this
  · rename_i i hi
    split at this
    · rename_i z hz
      simp only [Option.some.injEq] at this
      exact ⟨i, z, hi, hz, this⟩
    · cases this
  · cases this

/-- slices: element, its cells, its bytes, its zero -/
def elzB (P : Program) (t : TypeId) : Option (Nat × Nat × Nat × List Value) := match P.underlying t with
  | some (.slice e) => match P.info? e with
    | some i => match i.zero with
      | some z => some (e, i.size, i.bytes, z.cells.toList)
      | none => none
    | none => none
  | _ => none
class Elz (P : Program) (t : TypeId) (e k b : outParam Nat) (z : outParam (List Value)) : Prop where
  out : elzB P t = some (e, k, b, z)
  len : z.length = k
theorem Elz.und {P : Program} {t e k b : Nat} {z : List Value} (h : Elz P t e k b z) : P.underlying t = some (.slice e) ∧ ∃ i v, P.info? e = some i ∧ i.size = k ∧ i.bytes = b ∧ i.zero = some v ∧ v.cells.toList = z := by
  have := h.out
  unfold elzB at this
  split at this
  · rename_i e' hu
    split at this
    · rename_i i hi
      split at this
      · rename_i v hv
        simp only [Option.some.injEq, Prod.mk.injEq] at this
        obtain ⟨rfl, rfl, rfl, rfl⟩ := this
        exact ⟨hu, i, v, hi, rfl, rfl, hv, rfl⟩
      · cases this
    · cases this
  · cases this

section
variable {P : Program} {n : Nat} {ops : Array Oper} {Q : Exit → Act → World → Prop} {E : Env} {M : List Nat} {w0 : World} {H0 H : Hp} {L : Blks} {C : World → Prop} {rest : List Oper} {dst : Option Nat} {ty : TypeId} {pos : String} {aft : Array Edge}

theorem pr_build {t : TypeId} {parts : Array (Nat × Operand)} {pl : List (Nat × Nat)} {cs ds : List Value} {vs : List (Nat × Value)} (hv : evParts E parts.toList = some vs) [hz : Zero P t cs] [hp : Plc P t pl]
    (hf : fillL (fun i => pl[i]?) cs vs = some ds) : PR P E C (.build t parts) (.agg ds.toArray) := by
  intro n a w o ho he hw
  unfold execOp
  rw [ho]
  obtain ⟨i, z, hi, hz1, hz2⟩ := zero_info hz
  have hparts : (parts.map fun (x : Nat × Operand) => (x.1, a.eval x.2)).toList = vs := by
    rw [Array.toList_map]; exact he.parts hv
  have hfill : Instr.fill (fun i => pl[i]?) z.cells vs = some ds.toArray := fill_eq _ vs z.cells ds (by rw [hz2]; exact hf)
  have hpo := hp.out
  unfold plcB at hpo
  split at hpo
  · rename_i fs hu
    have hb : P.built t (parts.map fun (x : Nat × Operand) => (x.1, a.eval x.2)).toList = some ds.toArray := by
      unfold Program.built
      simp only [hi, hu, hz1, hpo, hparts]
      simpa using hfill
    simp [run_build w t _ _ hb]
  · cases hpo

theorem pr_buildArr {t k : Nat} {parts : Array (Nat × Operand)} {cs ds : List Value} {vs : List (Nat × Value)} (hv : evParts E parts.toList = some vs) [hz : Zero P t cs] [hp : Pla P t k]
    (hf : fillL (fun i => some (i * k, k)) cs vs = some ds) : PR P E C (.build t parts) (.agg ds.toArray) := by
  intro n a w o ho he hw
  unfold execOp
  rw [ho]
  obtain ⟨i, z, hi, hz1, hz2⟩ := zero_info hz
  have hparts : (parts.map fun (x : Nat × Operand) => (x.1, a.eval x.2)).toList = vs := by
    rw [Array.toList_map]; exact he.parts hv
  have hfill : Instr.fill (fun i => some (i * k, k)) z.cells vs = some ds.toArray := fill_eq _ vs z.cells ds (by rw [hz2]; exact hf)
  have hpo := hp.out
  unfold plaB at hpo
  split at hpo
  · rename_i len e hu
    split at hpo
    · rename_i ie hie
      simp only [Option.some.injEq] at hpo
      subst hpo
      have hb : P.built t (parts.map fun (x : Nat × Operand) => (x.1, a.eval x.2)).toList = some ds.toArray := by
        unfold Program.built
        simp only [hi, hu, hz1, hie, hparts]
        simpa using hfill
      simp [run_build w t _ _ hb]
    · cases hpo
  · cases hpo

/-- n copies of an element's cells -/
def reps (n : Nat) (z : List Value) : List Value := match n with
  | 0 => []
  | n + 1 => z ++ reps n z

theorem length_reps (z : List Value) : ∀ n, (reps n z).length = n * z.length
  | 0 => by simp [reps]
  | n + 1 => by simp [reps, length_reps z n, Nat.succ_mul, Nat.add_comm]

theorem reps_get (z : List Value) : ∀ (n i : Nat), i < n * z.length → (reps n z)[i]? = z[i % z.length]?
  | 0, i, h => by simp at h
  | n + 1, i, h => by
    simp only [reps]
    by_cases hi : i < z.length
    · rw [List.getElem?_append_left hi, Nat.mod_eq_of_lt hi]
    · rw [List.getElem?_append_right (by omega), reps_get z n (i - z.length) (by rw [Nat.succ_mul] at h; omega)]
      congr 1
      rw [← Nat.mod_eq_sub_mod (by omega)]

theorem madeCells_reps (z : Array Value) (n : Nat) : (madeCells z (n * z.size)).toList = reps n z.toList := by
  apply List.ext_getElem?
  intro i
  by_cases hi : i < n * z.size
  · rw [reps_get _ _ _ (by simpa using hi)]
    have hz : 0 < z.size := by
      rcases Nat.eq_zero_or_pos z.size with h | h
      · rw [h] at hi; simp at hi
      · exact h
    have hm : i % z.size < z.size := Nat.mod_lt _ hz
    simp [madeCells, hi, hm]
  · rw [List.getElem?_eq_none (by simp [madeCells]; omega), List.getElem?_eq_none (by rw [length_reps]; simpa using hi)]

theorem TL.make {t e k bs : Nat} {z : List Value} {x y : Operand} {kl kc : IntKind} {m c : Nat} (hx : ev E x = some (.int kl (m : Int))) (hy : ev E y = some (.int kc (c : Int))) [he : Elz P t e k bs z] (hmc : m ≤ c) (hb : bs * c ≤ 281474976710656) (hc : c ≤ 9223372036854775807) (hd : fits dst n = true)
    (h : ∀ b, TL P n ops Q rest (putE dst (.slice (some ⟨b, 0, none⟩) m c) E) (St M w0 H0 H ((b, reps c z) :: L))) :
    TL P n ops Q ({ dst := dst, op := .makeSlice t x y, type := ty, pos := pos, after := aft, guard := none } :: rest) E (St M w0 H0 H L) := by
  intro a w hE hw
  refine wpW_plain rfl (fun K hK => ?_)
  obtain ⟨hu, i, v, hi, h1, h2, h3, h4⟩ := he.und
  have hk := he.len
  have hbytes : (i.bytes : Int) * (c : Int) ≤ 281474976710656 := by
    rw [h2]
    have h : ((bs * c : Nat) : Int) ≤ 281474976710656 := by omega
    rwa [Int.natCast_mul] at h
  have hr := run_make (P := P) w t e i v hu hi h3 kl kc (m : Int) (c : Int) (by omega) (by omega) hbytes (by omega)
  have hkz : v.cells.size = k := by rw [← hk, ← h4]; simp
  have hrun : (execOp a.eval { dst := dst, op := .makeSlice t x y, type := ty, pos := pos, after := aft, guard := none }).run P w = .ok (.value (.slice (some ⟨w.heap.size, 0, none⟩) m c)) (w.alloc (.cells (reps c z).toArray e)) := by
    simp only [Int.toNat_natCast] at hr
    have hm : madeCells v.cells (c * i.size) = (reps c z).toArray := by
      apply Array.ext'
      rw [h1, ← hkz, madeCells_reps, h4]
    rw [hm] at hr
    simp [execOp, hE.eval hx, hE.eval hy, hr]
  unfold Oper.wp
  rw [hrun]
  exact hK _ _ (h _ _ _ (hE.put hd) (hw.alloc _ _))

theorem TL.bslice {t e k bs : Nat} {z ds : List Value} {len : Nat} {parts : Array (Nat × Operand)} {vs : List (Nat × Value)} (hv : evParts E parts.toList = some vs) [he : Elz P t e k bs z] (hlen : Nat.ble (len * k) 16777216 = true)
    (hf : fillL (fun i => some (i * k, k)) (reps len z) vs = some ds) (hd : fits dst n = true)
    (h : ∀ b, TL P n ops Q rest (putE dst (.slice (some ⟨b, 0, none⟩) len len) E) (St M w0 H0 H ((b, ds) :: L))) :
    TL P n ops Q ({ dst := dst, op := .buildSlice t len parts, type := ty, pos := pos, after := aft, guard := none } :: rest) E (St M w0 H0 H L) := by
  intro a w hE hw
  refine wpW_plain rfl (fun K hK => ?_)
  obtain ⟨hu, i, v, hi, h1, h2, h3, h4⟩ := he.und
  have hk := he.len
  have hl := Nat.le_of_ble_eq_true hlen
  have hparts : (parts.map fun (x : Nat × Operand) => (x.1, a.eval x.2)).toList = vs := by
    rw [Array.toList_map]; exact hE.parts hv
  have hkz : v.cells.size = k := by rw [← hk, ← h4]; simp
  have hm : madeCells v.cells (len * k) = (reps len z).toArray := by
    apply Array.ext'
    rw [← hkz, madeCells_reps, h4]
  have hfill : Instr.fill (fun i => some (i * k, k)) (madeCells v.cells (len * k)) vs = some ds.toArray := fill_eq _ vs _ ds (by rw [hm]; exact hf)
  have hrun : (execOp a.eval { dst := dst, op := .buildSlice t len parts, type := ty, pos := pos, after := aft, guard := none }).run P w = .ok (.value (.slice (some ⟨w.heap.size, 0, none⟩) len len)) (w.alloc (.cells ds.toArray e)) := by
    have hsz : (sizeOf e).run P w = .ok k w := by simp [sizeOf, typeInfo, hi, h1]
    have hz0 : (zeroValue e).run P w = .ok v w := by simp [zeroValue, typeInfo, hi, h3]
    have hn : ¬ len * k > 2 ^ 24 := by omega
    have hfill0 := hfill
    unfold madeCells at hfill
    by_cases h0 : len * k = 0
    · have hfill' : Instr.fill (fun i => some (i * k, k)) #[] vs = some ds.toArray := by
        rw [h0, Array.range_zero'] at hfill
        simpa using hfill
      have h0' : len = 0 ∨ k = 0 := Nat.mul_eq_zero.1 h0
      simp [execOp, Instr.buildSlice, run_underlying hu, hsz, h0, h0', hE.parts hv, hfill', newRow, Array.range_zero']
    · simp [execOp, Instr.buildSlice, run_underlying hu, hsz, h0, hz0, hn, hE.parts hv, hfill, newRow]
  unfold Oper.wp
  rw [hrun]
  exact hK _ _ (h _ _ _ (hE.put hd) (hw.alloc _ _))

/-- the block x is brought to the front -/
inductive Mv (x : Nat × List Value) : Blks → Blks → Prop
  | here (L : Blks) : Mv x (x :: L) L
  | there {L R : Blks} (y : Nat × List Value) (h : Mv x L R) : Mv x (y :: L) (y :: R)
theorem Mv.perm {x : Nat × List Value} {L R : Blks} (h : Mv x L R) : L.Perm (x :: R) := by
  induction h with
  | here L => exact List.Perm.refl _
  | there y _ ih => exact (ih.cons y).trans (List.Perm.swap _ _ _)
theorem TL.front {l : List Oper} {x : Nat × List Value} {R : Blks} (h : Mv x L R) (k : TL P n ops Q l E (St M w0 H0 H (x :: R))) : TL P n ops Q l E (St M w0 H0 H L) :=
  TL.cls (fun w hw => hw.perm h.perm) k
theorem TC.front {c : Code} {x : Nat × List Value} {R : Blks} (h : Mv x L R) (k : TC P n c Q E (St M w0 H0 H (x :: R))) : TC P n c Q E (St M w0 H0 H L) :=
  TC.cls (fun w hw => hw.perm h.perm) k
theorem TX.cls {q : Act → World → Prop} {C C' : World → Prop} (hc : ∀ w, C w → C' w) (h : TX n q E C') : TX n q E C := fun a w he hw => h a w he (hc w hw)
theorem TX.front {q : Act → World → Prop} {x : Nat × List Value} {R : Blks} (h : Mv x L R) (k : TX n q E (St M w0 H0 H (x :: R))) : TX n q E (St M w0 H0 H L) :=
  TX.cls (fun w hw => hw.perm h.perm) k
/-- the front block is let go of: it may be read from here on -/
theorem TL.publish {l : List Oper} {b : Nat} {cs : List Value} {R : Blks} (hb : b ∉ M) (k : H.le (H.add b cs) → TL P n ops Q l E (St M w0 H0 (H.add b cs) R)) : TL P n ops Q l E (St M w0 H0 H ((b, cs) :: R)) := by
  intro a w he hw
  exact k hw.le_add a w he (hw.publish hb)
theorem TX.publish {q : Act → World → Prop} {b : Nat} {cs : List Value} {R : Blks} (hb : b ∉ M) (k : H.le (H.add b cs) → TX n q E (St M w0 H0 (H.add b cs) R)) : TX n q E (St M w0 H0 H ((b, cs) :: R)) := by
  intro a w he hw
  exact k hw.le_add a w he (hw.publish hb)

/-- a function that may write one block -/
def FnM1 (P : Program) (f : FuncId) (args : List Value) (H : Hp) (b : Nat) (cs : List Value) (Φ : Value → Hp → List Value → Prop) : Prop :=
  FnM P f args H [(b, cs)] (fun v H' L' => ∃ cs', L' = [(b, cs')] ∧ Φ v H' cs')

theorem TL.callM1 {f : FuncId} {args : List Value} {b : Nat} {cs : List Value} {L2 : Blks} {op : Op} {Φ : Value → Hp → List Value → Prop} (hE : Enters P E op f args) (hF : FnM1 P f args H b cs Φ) (hd : fits dst n = true)
    (h : ∀ v H' cs', H.le H' → Φ v H' cs' → TL P n ops Q rest (putE dst v E) (St M w0 H0 H' ((b, cs') :: L2))) :
    TL P n ops Q ({ dst := dst, op := op, type := ty, pos := pos, after := aft, guard := none } :: rest) E (St M w0 H0 H ((b, cs) :: L2)) :=
  TL.callM (L1 := [(b, cs)]) (L2 := L2) hE hF hd fun v H' L1' hle hk hΦ => by
    obtain ⟨cs', rfl, h1⟩ := hΦ
    exact h v H' cs' hle h1
theorem TL.callM1Y {f : FuncId} {args : List Value} {b : Nat} {cs : List Value} {L2 : Blks} {op : Op} {Φ : Value → Hp → List Value → Prop} {j s : Nat} {bb : Bool} (hj : dstOf ops j = some s) (hb : lk E s = some (.bool bb)) (hE : Enters P E op f args) (hF : FnM1 P f args H b cs Φ) (hd : fits dst n = true)
    (h : ∀ v H' cs', H.le H' → Φ v H' cs' → TL P n ops Q rest (putE dst v E) (St M w0 H0 H' ((b, cs') :: L2))) :
    TL P n ops Q ({ dst := dst, op := op, type := ty, pos := pos, after := aft, guard := some (j, bb) } :: rest) E (St M w0 H0 H ((b, cs) :: L2)) :=
  TL.callMY (L1 := [(b, cs)]) (L2 := L2) hj hb hE hF hd fun v H' L1' hle hk hΦ => by
    obtain ⟨cs', rfl, h1⟩ := hΦ
    exact h v H' cs' hle h1
theorem FnM1.enter {f : FuncId} {args : List Value} {b : Nat} {cs : List Value} {Φ : Value → Hp → List Value → Prop} {fn : Func} {c : Code}
    (hf : P.funcs[f]? = some fn) (hn : fn.ntmps = n) (hb : fn.body = some c) (hl : Nat.ble args.length n = true)
    (h : ∀ w0, TC P n c (bodyPost P fn (Post [b] w0 H (fun v H' L' => ∃ cs', L' = [(b, cs')] ∧ Φ v H' cs'))) (initE 0 args) (St [b] w0 H H [(b, cs)])) : FnM1 P f args H b cs Φ := FnM.enter (L1 := [(b, cs)]) hf hn hb hl h
theorem St.only {M : List Nat} {w0 w : World} {H0 H : Hp} {L L1 : Blks} (h : St M w0 H0 H L w) (hm : ∀ p ∈ L1, p ∈ L) (hn : (L1.map (·.1)).Nodup) : St M w0 H0 H L1 w :=
  ⟨h.os, h.tape, h.output, h.size, h.old, h.hp, fun p hp => h.own p (hm p hp), fun p hp o => h.sep p (hm p hp) o, hn, fun p hp => h.mine p (hm p hp), h.fr⟩
theorem TX.fin1 {fn : Func} {Φ : Value → Hp → List Value → Prop} {v : Value} {b : Nat} {cs : List Value} {e : Exit} (he : e = .normal ∨ e = .ret) (hr : ∀ a w, EOk n E a → St [b] w0 H0 H L w → (results fn a.tmps).run P w = .ok v w)
    (hT : InL b cs L) (h : Φ v H cs) : TX n (bodyPost P fn (Post [b] w0 H0 (fun v H' L' => ∃ cs', L' = [(b, cs')] ∧ Φ v H' cs')) e) E (St [b] w0 H0 H L) :=
  TX.end_ e he hr fun w hw => ⟨v, H, [(b, cs)], rfl, hw.only (by intro p hp; rw [List.mem_singleton.1 hp]; exact hT.mem) (by simp), rfl, cs, rfl, h⟩

/-- an element of a slice that lies in a block of one's own -/
theorem pr_ownEl1 {t k' : Nat} {x : Operand} {b o : Nat} {cs : List Value} {v : Value} (hx : ev E x = some (.pointer (some ⟨b, o, none⟩))) [ht : Ty P t false k'] (hL : InL b cs L) (hv : cs[o]? = some v) :
    PR P E (St M w0 H0 H L) (.load t x) v := pr_own1 hx hL hv
theorem St.weak {M : List Nat} {w0 w : World} {H0 H H1 : Hp} {L : Blks} (h : St M w0 H0 H L w) (hl : H1.le H) (hf : Fresh w0 H0 H1) : St M w0 H0 H1 L w := by
  refine ⟨h.os, h.tape, h.output, h.size, h.old, fun b o v hv => h.hp b o v (hl b o v hv), h.own, fun p hp o => ?_, h.nd, h.mine, hf⟩
  cases ho : H1 p.1 o with
  | none => rfl
  | some v =>
    have h1 := hl _ _ _ ho
    rw [h.sep p hp o] at h1
    cases h1
/-- the end of a function whose result is a plain value -/
theorem TX.finS {fn : Func} {v u : Value} {e : Exit} (he : e = .normal ∨ e = .ret) (hr : ∀ a w, EOk n E a → St [] w0 H0 H L w → (results fn a.tmps).run P w = .ok v w) (h : v = u) :
    TX n (bodyPost P fn (Post [] w0 H0 (fun v' H' _ => v' = u ∧ H' = H0)) e) E (St [] w0 H0 H L) :=
  TX.end_ e he hr fun w hw => ⟨v, H0, [], rfl, ((Tail.nil L).st hw).weak hw.fr.1 (Fresh.refl _ _), rfl, h, rfl⟩

/-- the front block is let go of: what it holds may be read from here on -/
theorem TL.pub {l : List Oper} {b : Nat} {cs : List Value} {R : Blks} (hb : b ∉ M) (k : ∀ H', H.le H' → (∀ o v, cs[o]? = some v → H' b o = some v) → TL P n ops Q l E (St M w0 H0 H' R)) : TL P n ops Q l E (St M w0 H0 H ((b, cs) :: R)) := by
  intro a w he hw
  exact k _ hw.le_add (fun o v hv => by simp [Hp.add, hv]) a w he (hw.publish hb)
theorem TC.pub {c : Code} {b : Nat} {cs : List Value} {R : Blks} (hb : b ∉ M) (k : ∀ H', H.le H' → (∀ o v, cs[o]? = some v → H' b o = some v) → TC P n c Q E (St M w0 H0 H' R)) : TC P n c Q E (St M w0 H0 H ((b, cs) :: R)) := by
  intro a w he hw
  exact k _ hw.le_add (fun o v hv => by simp [Hp.add, hv]) a w he (hw.publish hb)
theorem TX.pub {q : Act → World → Prop} {b : Nat} {cs : List Value} {R : Blks} (hb : b ∉ M) (k : ∀ H', H.le H' → (∀ o v, cs[o]? = some v → H' b o = some v) → TX n q E (St M w0 H0 H' R)) : TX n q E (St M w0 H0 H ((b, cs) :: R)) := by
  intro a w he hw
  exact k _ hw.le_add (fun o v hv => by simp [Hp.add, hv]) a w he (hw.publish hb)
end
end Go.Sx

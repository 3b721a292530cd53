import Derived.Test.YtjnlogbbcceaoaaSxB
import Derived.Maps.Own
import Derived.Laws.StructEq
set_option linter.unusedSimpArgs false
set_option linter.unusedVariables false
namespace Go.Sx
open Go
/-! ## a set of texts: a map of one's own from texts to bools, each true -/
def MapAt (b : Nat) (ks : List (List UInt8)) (w : World) : Prop := ∃ es ck, w.heap[b]? = some (.map es ck) ∧ es.toList.map (fun e => (e.key, e.val)) = ks.map (fun k => (gs k, Value.bool true))
def StM (M : List Nat) (w0 : World) (H0 H : Hp) (L : Blks) (b : Nat) (ks : List (List UInt8)) (w : World) : Prop := St M w0 H0 H L w ∧ MapAt b ks w ∧ w0.heap.size ≤ b
theorem bytes_beq (s k : List UInt8) : (ByteArray.mk s.toArray == ByteArray.mk k.toArray) = decide (s = k) := by
  show (s.toArray == k.toArray) = _
  by_cases h : s = k
  · subst h; simp
  · rw [decide_eq_false h]; simpa using h
theorem findNow_set (s : List UInt8) : ∀ (l : List MapEntry) (ks : List (List UInt8)) (i : Nat), l.map (fun e => (e.key, e.val)) = ks.map (fun k => (gs k, Value.bool true)) →
    (s ∉ ks ∧ Instr.findNow .string (gs s) l i = some none) ∨ (s ∈ ks ∧ ∃ j, Instr.findNow .string (gs s) l i = some (some (j, .bool true))) := by
  intro l
  induction l with
  | nil => intro ks i h; cases ks with
    | nil => exact .inl ⟨by simp, rfl⟩
    | cons k ks => cases h
  | cons e l ih =>
    intro ks i h
    cases ks with
    | nil => cases h
    | cons k ks =>
      simp only [List.map_cons, List.cons.injEq, Prod.mk.injEq] at h
      obtain ⟨⟨h1, h2⟩, h3⟩ := h
      have hs : Instr.sameNow .string (gs s) e.key = some (decide (s = k)) := by rw [h1]; simp only [gs, Instr.sameNow, bytes_beq]
      by_cases hk : s = k
      · right
        refine ⟨by simp [hk], i, ?_⟩
        unfold Instr.findNow
        rw [hs, decide_eq_true hk, h2]
      · have hn : Instr.findNow .string (gs s) (e :: l) i = Instr.findNow .string (gs s) l (i + 1) := by
          rw [Instr.findNow, hs, decide_eq_false hk]
        rcases ih ks (i + 1) h3 with ⟨a, c⟩ | ⟨a, j, c⟩
        · exact .inl ⟨by simp [hk, a], hn.trans c⟩
        · exact .inr ⟨by simp [a], j, hn.trans c⟩
section
variable {P : Program} {n : Nat} {ops : Array Oper} {Q : Exit → Act → World → Prop} {E E' : Env} {M : List Nat} {w0 : World} {H0 H : Hp} {L : Blks} {rest : List Oper} {dst : Option Nat} {op : Op} {ty : TypeId} {pos : String} {aft : Array Edge} {b : Nat} {ks : List (List UInt8)}
/-- a map's type, from texts to bools -/
def mapTBb (P : Program) (t : TypeId) : Bool := match P.underlying t with
  | some (.map k e) => (match P.underlying k with
    | some .string => true
    | _ => false) && (match P.info? e with
    | some i => (match i.zero with
      | some (.bool false) => true
      | _ => false)
    | none => false)
  | _ => false
class MapTB (P : Program) (t : TypeId) : Prop where
  outB : mapTBb P t = true
theorem MapTB.out {t : TypeId} (h : MapTB P t) : ∃ k e, P.underlying t = some (.map k e) ∧ P.underlying k = some .string ∧ ∀ w, (zeroValue e).run P w = .ok (.bool false) w := by
  have h := h.outB
  unfold mapTBb at h
  split at h
  · rename_i k e ht
    simp only [Bool.and_eq_true] at h
    obtain ⟨h1, h2⟩ := h
    split at h1
    · rename_i hk
      refine ⟨k, e, ht, hk, fun w => ?_⟩
      split at h2
      · rename_i i hi
        split at h2
        · rename_i hz
          simp [zeroValue, typeInfo, hi, hz]
        · cases h2
      · cases h2
    · cases h1
  · cases h
theorem MapAt.kept {w w' : World} (h : MapAt b ks w) (hk : ∀ i, i < w.heap.size → i = b → w'.heap[i]? = w.heap[i]?) : MapAt b ks w' := by
  obtain ⟨es, ck, h1, h2⟩ := h
  exact ⟨es, ck, (hk b (lt_of_cells h1) rfl).trans h1, h2⟩
theorem checkKey_str {e : Bool} {m k : Nat} {s : List UInt8} {w : World} (hk : P.underlying k = some .string) : (Instr.checkKey e (m + 1) k (gs s)).run P w = .ok () w := by
  simp [Instr.checkKey, run_underlying hk, gs]
theorem StM.notin {w : World} (h : StM M w0 H0 H L b ks w) : b ∉ keys L := fun hm => by
  obtain ⟨p, hp, rfl⟩ := List.mem_map.1 hm
  obtain ⟨t, ht⟩ := h.1.own p hp
  obtain ⟨es, ck, h1, _⟩ := h.2.1
  rw [ht] at h1; cases h1
theorem StM.over {w1 w : World} {L' : Blks} {H' : Hp} (h : StM M w0 H0 H L b ks w1) (hw : St (keys L) w1 H H' L' w) : StM M w0 H0 H' L' b ks w := by
  refine ⟨?_, h.2.1.kept (fun i hi e => hw.old i hi (by subst e; exact h.notin)), h.2.2⟩
  have := St.pastX (L1 := L) (L1' := L') (L2 := []) (by simpa using h.1) hw
  simpa using this
theorem StM.drop {x : Nat × List Value} {w : World} (h : StM M w0 H0 H (x :: L) b ks w) : StM M w0 H0 H L b ks w := ⟨h.1.drop, h.2⟩
theorem TC.rebase {c : Code} (h : ∀ w1, StM M w0 H0 H L b ks w1 → TC P n c Q E (St (keys L) w1 H H L)) : TC P n c Q E (StM M w0 H0 H L b ks) := fun a w he hw => h w hw a w he (St.pass1 (L1 := L) (L2 := []) (by simpa using hw.1))
theorem TX.unbase {q : Act → World → Prop} {w1 : World} {L' : Blks} {H' : Hp} (hm : StM M w0 H0 H L b ks w1) (h : TX n q E (St M w0 H0 H' L')) : TX n q E (St (keys L) w1 H H' L') := fun a w he hw => h a w he (hm.over hw).1
theorem pr_mapGet {t : TypeId} [hT : MapTB P t] {x y : Operand} {s : List UInt8} {w1 : World} {L' : Blks} {H' : Hp} (hm : StM M w0 H0 H L b ks w1) (hx : ev E x = some (.map (some b))) (hy : ev E y = some (gs s)) : PR P E (St (keys L) w1 H H' L') (.lookup t x y false) (.bool (decide (s ∈ ks))) := by
  intro n a w o ho he hw
  obtain ⟨es, ck, h1, h2⟩ := (hm.over hw).2.1
  obtain ⟨k, e, ht, hk, hz⟩ := hT.out
  have hck : ∀ b, (Instr.checkKey b 10000 k (gs s)).run P w = .ok () w := fun b => checkKey_str (m := 9999) hk
  unfold execOp
  rw [ho]
  rcases findNow_set s es.toList ks 0 h2 with ⟨hn, hf⟩ | ⟨hn, j, hf⟩
  · rw [decide_eq_false hn]
    simp [he.eval hx, he.eval hy, Instr.lookup, run_underlying ht, MapKept.run_getObj_map h1, hck, Instr.findKey, run_underlying hk, hf, hz, Result.andThen]
  · rw [decide_eq_true hn]
    simp [he.eval hx, he.eval hy, Instr.lookup, run_underlying ht, MapKept.run_getObj_map h1, hck, Instr.findKey, run_underlying hk, hf, hz, Result.andThen]
theorem StM.put {w : World} {es : Array MapEntry} {ck : Nat} {s : List UInt8} (hw : StM M w0 H0 H L b ks w) (h1 : w.heap[b]? = some (.map es ck)) (h2 : es.toList.map (fun e => (e.key, e.val)) = ks.map (fun k => (gs k, Value.bool true))) :
    StM M w0 H0 H L b (ks ++ [s]) { w with heap := w.heap.setIfInBounds b (.map (es.push { key := gs s, val := .bool true, born := ck }) (ck + 1)) } := by
  have hlt := lt_of_cells h1
  have hoth : ∀ i, i ≠ b → (w.heap.setIfInBounds b (.map (es.push { key := gs s, val := .bool true, born := ck }) (ck + 1)))[i]? = w.heap[i]? := fun i hi => by
    rw [Array.getElem?_setIfInBounds, if_neg (fun e => hi e.symm)]
  have hcell : ∀ o, w.cell? ⟨b, o, none⟩ = none := fun o => by simp [World.cell?, h1]
  have h := hw.1
  refine ⟨⟨h.os, h.tape, h.output, by simpa using h.size, fun i hi hM => ?_, fun c o v hv => ?_, fun p hp => ?_, h.sep, h.nd, h.mine, h.fr⟩, ⟨es.push { key := gs s, val := .bool true, born := ck }, ck + 1, ?_, ?_⟩, hw.2.2⟩
  · rw [← h.old i hi hM]; exact hoth i (by have := hw.2.2; omega)
  · have hc := h.hp c o v hv
    have hne : c ≠ b := fun e => by subst e; rw [hcell] at hc; cases hc
    rw [cell_of_heap (hoth c hne)]; exact hc
  · obtain ⟨t, ht⟩ := h.own p hp
    have hne : p.1 ≠ b := fun e => by rw [e, h1] at ht; cases ht
    exact ⟨t, (hoth _ hne).trans ht⟩
  · show (w.heap.setIfInBounds b _)[b]? = _
    rw [Array.getElem?_setIfInBounds, if_pos rfl, if_pos hlt]
  · simp [h2]
theorem TL.mapPut {t : TypeId} [hT : MapTB P t] {x y z : Operand} {s : List UInt8} (hx : ev E x = some (.map (some b))) (hy : ev E y = some (gs s)) (hz : ev E z = some (.bool true)) (hs : s ∉ ks) (hd : fits dst n = true) {w1 : World} {L' : Blks} {H' : Hp} (hm : StM M w0 H0 H L b ks w1)
    (h : TL P n ops Q rest (putE dst undef E) (StM M w0 H0 H' L' b (ks ++ [s]))) :
    TL P n ops Q ({ dst := dst, op := .mapUpdate t x y z, type := ty, pos := pos, after := aft, guard := none } :: rest) E (St (keys L) w1 H H' L') := by
  intro a w he hw0
  have hw := hm.over hw0
  refine wpW_plain rfl (fun K hK => ?_)
  obtain ⟨es, ck, h1, h2⟩ := hw.2.1
  obtain ⟨k, e, ht, hk, hzv⟩ := hT.out
  have hck : ∀ b, (Instr.checkKey b 10000 k (gs s)).run P w = .ok () w := fun b => checkKey_str (m := 9999) hk
  rcases findNow_set s es.toList ks 0 h2 with ⟨hn, hf⟩ | ⟨hn, j, hf⟩
  · have hrun : (execOp a.eval { dst := dst, op := .mapUpdate t x y z, type := ty, pos := pos, after := aft, guard := none }).run P w = .ok .skip { w with heap := w.heap.setIfInBounds b (.map (es.push { key := gs s, val := .bool true, born := ck }) (ck + 1)) } := by
      simp [execOp, he.eval hx, he.eval hy, he.eval hz, Instr.mapUpdate, run_underlying ht, MapKept.run_getObj_map h1, hck, Instr.findKey, run_underlying hk, hf, MapKept.run_setObj_map _ h1, Result.andThen]
    unfold Oper.wp
    rw [hrun]
    exact hK _ _ (h _ _ (he.put hd) (hw.put h1 h2))
  · exact absurd hn hs
theorem TL.mapMake {t : TypeId} [hT : MapTB P t] (hd : fits dst n = true) (h : ∀ b w1, StM M w0 H0 H L b [] w1 → TL P n ops Q rest (putE dst (.map (some b)) E) (St (keys L) w1 H H L)) :
    TL P n ops Q ({ dst := dst, op := .makeMap t none, type := ty, pos := pos, after := aft, guard := none } :: rest) E (St M w0 H0 H L) := by
  intro a w he hw
  refine wpW_plain rfl (fun K hK => ?_)
  have hrun : (execOp a.eval { dst := dst, op := .makeMap t none, type := ty, pos := pos, after := aft, guard := none }).run P w = .ok (.value (.map (some w.heap.size))) (w.alloc (.map #[] 0)) := by
    simp [execOp, Instr.makeMap, newObj, Result.andThen]; rfl
  unfold Oper.wp
  rw [hrun]
  have hm : StM M w0 H0 H L w.heap.size [] (w.alloc (.map #[] 0)) := ⟨(Ext.alloc w _).st hw, ⟨#[], 0, heap_alloc_new w _, rfl⟩, hw.size⟩
  exact hK _ _ (h _ _ hm _ _ (he.put hd) (St.pass1 (L1 := L) (L2 := []) (by simpa using hm.1)))
end
end Go.Sx

set_option linter.unusedSimpArgs false
set_option linter.unusedVariables false
namespace Go.Sx
open Go
/-! ## rows of blocks put in another order; an element of a row of one's own written -/
def cat : List Blks → Blks
  | [] => []
  | [a] => a
  | a :: b :: r => a ++ cat (b :: r)
theorem cat_flat : ∀ l : List Blks, cat l = l.flatten
  | [] => rfl
  | [a] => by simp [cat]
  | a :: b :: r => by rw [cat, cat_flat (b :: r)]; rfl
theorem pick_all {α : Type} (ps : List α) : (List.range ps.length).filterMap (fun i => ps[i]?) = ps := by
  induction ps with
  | nil => rfl
  | cons p ps ih =>
    rw [List.length_cons, List.range_succ_eq_map, List.filterMap_cons]
    simp only [List.getElem?_cons_zero, List.filterMap_map]
    congr 1
theorem perm_cat (ps : List Blks) (js : List Nat) (h : js.isPerm (List.range ps.length) = true) : (cat ps).Perm (cat (js.filterMap fun i => ps[i]?)) := by
  rw [cat_flat, cat_flat]
  have h1 : (js.filterMap fun i => ps[i]?).Perm ps := by
    have := (List.isPerm_iff.1 h).filterMap (fun i => ps[i]?)
    rwa [pick_all] at this
  exact h1.symm.flatten
theorem perm_nest2 (X : Blks) {A B C : Blks} : (X ++ ((A ++ B) ++ C)).Perm (X ++ (A ++ (B ++ C))) := by rw [List.append_assoc]
theorem perm_nest3 (X : Blks) {A B D C : Blks} : (X ++ ((A ++ (B ++ D)) ++ C)).Perm (X ++ (A ++ (B ++ (D ++ C)))) := by rw [List.append_assoc, List.append_assoc]
theorem perm_end1 (X : Blks) {A : Blks} : (X ++ (A ++ [])).Perm (X ++ A) := by rw [List.append_nil]
theorem perm_end2 (X : Blks) {A B : Blks} : (X ++ (A ++ (B ++ []))).Perm (X ++ (A ++ B)) := by rw [List.append_nil]
theorem perm_assoc2 {x y : Nat × List Value} {A B C : Blks} : (x :: y :: ((A ++ B) ++ C)).Perm (x :: y :: (A ++ (B ++ C))) := by rw [List.append_assoc]
section
variable {P : Program} {n : Nat} {ops : Array Oper} {Q : Exit → Act → World → Prop} {E : Env} {M : List Nat} {w0 : World} {H0 H : Hp} {L : Blks} {C : World → Prop} {rest : List Oper} {dst : Option Nat} {op : Op} {ty : TypeId} {pos : String} {aft : Array Edge}
theorem TL.permL {L' : Blks} {l : List Oper} (hp : L.Perm L') (h : TL P n ops Q l E (St M w0 H0 H L')) : TL P n ops Q l E (St M w0 H0 H L) := fun a w he hw => h a w he (hw.perm hp)
theorem TX.permL {L' : Blks} {q : Act → World → Prop} (hp : L.Perm L') (h : TX n q E (St M w0 H0 H L')) : TX n q E (St M w0 H0 H L) := fun a w he hw => h a w he (hw.perm hp)
theorem TC.permL {L' : Blks} {c : Code} (hp : L.Perm L') (h : TC P n c Q E (St M w0 H0 H L')) : TC P n c Q E (St M w0 H0 H L) := fun a w he hw => h a w he (hw.perm hp)
theorem TF.permL {L' : Blks} {l : List (Nat × Oper)} (hp : L.Perm L') (h : TF P n ops Q l E (St M w0 H0 H L')) : TF P n ops Q l E (St M w0 H0 H L) := fun a w he hw => h a w he (hw.perm hp)
theorem row_set20 {α : Type} {k j : Nat} {enc : α → List Value} {u : Value} {a' : α} (hk : ∀ x, (enc x).length = k) (hj : j < k) : ∀ (xs : List α) (i : Nat) (a : α), xs[i]? = some a → enc a' = (enc a).set j u → (xs.flatMap enc).set (i * k + j) u = (xs.set i a').flatMap enc
  | [], _, _, h, _ => by simp at h
  | y :: xs, 0, a, h, he => by
    simp only [List.getElem?_cons_zero, Option.some.injEq] at h
    subst h
    simp only [List.flatMap_cons, List.set_cons_zero, Nat.zero_mul, Nat.zero_add]
    rw [List.set_append_left _ _ (by rw [hk]; exact hj), he]
  | y :: xs, i + 1, a, h, he => by
    simp only [List.flatMap_cons, List.set_cons_succ]
    rw [List.set_append_right _ _ (by rw [hk, Nat.succ_mul]; omega), hk, show (i + 1) * k + j - k = i * k + j by rw [Nat.succ_mul]; omega]
    rw [row_set20 hk hj xs i a (by simpa using h) he]
theorem OwnSl.put {α : Type} {k j i : Nat} {enc : α → List Value} [hc : Cells k enc] {b cap : Nat} {cs : List Value} {u : Value} {xs : List α} {a a' : α} (hcl : cs.length = cap * k) (htk : cs.take (xs.length * k) = xs.flatMap enc) (hle : xs.length ≤ cap) (hcm : cap ≤ 9223372036854775807)
    (hi : xs[i]? = some a) (he : enc a' = (enc a).set j u) (hj : j < k) : OwnSl k enc (.slice (some ⟨b, 0, none⟩) xs.length cap) (xs.set i a') [(b, cs.set (i * k + j) u)] := by
  refine .inr ⟨b, cap, cs.set (i * k + j) u, by rw [List.length_set], rfl, by rw [List.length_set]; exact hcl, ?_, by rw [List.length_set]; exact hle, hcm⟩
  rw [List.length_set, List.take_set, htk]
  exact row_set20 hc.len hj xs i a hi he
theorem TL.storeO {α : Type} {t k k1 j i : Nat} {enc : α → List Value} [hc : Cells k enc] {x y : Operand} {v u : Value} {xs : List α} {ob : Blks} {F : Blks → Blks} {a a' : α} (hx : ev E x = some (.pointer (some ⟨ogb ob, i * k + j, none⟩))) (hy : ev E y = some u)
    (hO : OwnSl k enc v xs ob) (hU : Tl ob L F) (hi : xs[i]? = some a) (he : enc a' = (enc a).set j u) (hj : Nat.blt j k = true) [ht : Ty P t false k1] [h1 : One u] (hk : k1 = 1) (hd : fits dst n = true)
    (h : ∀ ob', ogb ob' = ogb ob → OwnSl k enc v (xs.set i a') ob' → TL P n ops Q rest (putE dst undef E) (St M w0 H0 H (F ob'))) :
    TL P n ops Q ({ dst := dst, op := .store t x y, type := ty, pos := pos, after := aft, guard := none } :: rest) E (St M w0 H0 H L) := by
  obtain ⟨R, hp, hF⟩ := hU.perm
  rcases hO with ⟨rfl, rfl, rfl⟩ | ⟨b, cap, cs, rfl, rfl, hcl, htk, hle, hcm⟩
  · simp at hi
  · have hjk : j < k := by rwa [Nat.blt_eq] at hj
    have hil : i < xs.length := (List.getElem?_eq_some_iff.1 hi).1
    have hlt : i * k + j < cs.length := by
      rw [hcl]
      have : (i + 1) * k ≤ cap * k := Nat.mul_le_mul_right k (by omega)
      rw [Nat.succ_mul] at this; omega
    refine TL.permL hp (TL.store1 (b := b) (o := i * k + j) hx hy hk (.here _) (by rw [Nat.blt_eq]; exact hlt) hd ?_)
    exact TL.permL (hF [(b, cs.set (i * k + j) u)]).symm (h [(b, cs.set (i * k + j) u)] rfl (OwnSl.put hcl htk hle hcm hi he hjk))
theorem FnX.enterM {f : FuncId} {args : List Value} {L1 : Blks} {Φ : Value → Hp → Blks → Prop} {fn : Func} {c : Code}
    (hf : P.funcs[f]? = some fn) (hn : fn.ntmps = n) (hb : fn.body = some c) (hl : Nat.ble args.length n = true)
    (h : ∀ w0 M, (∀ b ∈ M, b < w0.heap.size) → TC P n c (bodyPost P fn (PostX M w0 H Φ)) (initE 0 args) (St M w0 H H L1)) : FnX P f args H L1 Φ := by
  intro w hw
  refine calls_of_wp hf hb (h w (keys L1) (fun b hm => ?_) _ w ⟨?_, rfl, fun t v ht => ?_⟩ hw)
  · obtain ⟨p, hp, rfl⟩ := List.mem_map.1 hm
    exact hw.lt hp
  · have := Nat.le_of_ble_eq_true hl
    simp [hn]
    omega
  · have h1 := (initE_lk args 0 t v ht).2
    simp only [Nat.sub_zero] at h1
    have h2 : t < args.length := (List.getElem?_eq_some_iff.1 h1).1
    rw [Array.getElem?_append_left (by simpa using h2)]
    simpa using h1
theorem TL.callOF {f : FuncId} {args : List Value} {Φ : Value → Hp → Blks → Prop} (hE : Enters P E op f args) (hF : FnO P f args H Φ) (hd : fits dst n = true)
    (h : ∀ v H' ob, (∀ p ∈ ob, w0.heap.size ≤ p.1) → H.le H' → Φ v H' ob → TL P n ops Q rest (putE dst v E) (St M w0 H0 H' (L ++ ob))) :
    TL P n ops Q ({ dst := dst, op := op, type := ty, pos := pos, after := aft, guard := none } :: rest) E (St M w0 H0 H L) := by
  intro a w he hw
  refine wpW_plain rfl (fun K hK => ?_)
  unfold Oper.wp
  rw [hE n a w _ rfl he]
  refine (hF w (St.pass1 (L1 := []) (L2 := L) hw)).mono ?_
  rintro e w' ⟨v, H', ob, rfl, hst, hΦ⟩
  exact hK _ _ (h v H' ob (fun p hp => Nat.le_trans hw.size ((hst.mine p hp).resolve_left (by simp))) hst.fr.1 hΦ _ _ (he.put hd) (hw.pastO hst))
theorem TL.callXP {f : FuncId} {args : List Value} {L1 L2 : Blks} {Φ : Value → Hp → Blks → Prop} (hp : L.Perm (L1 ++ L2)) (hE : Enters P E op f args) (hF : FnX P f args H L1 Φ) (hd : fits dst n = true)
    (h : ∀ v H' L1', H.le H' → Φ v H' L1' → TL P n ops Q rest (putE dst v E) (St M w0 H0 H' (L1' ++ L2))) :
    TL P n ops Q ({ dst := dst, op := op, type := ty, pos := pos, after := aft, guard := none } :: rest) E (St M w0 H0 H L) := TL.permL hp (TL.callX hE hF hd h)
/-- a field of a struct in hand -/
def fl1B (P : Program) (s f : Nat) : Option Nat := match P.underlying s with
  | some (.struct fs) => match fs[f]? with
    | some fd => match tyB P fd.type with
      | some (false, _) => some fd.offset
      | _ => none
    | none => none
  | _ => none
theorem pr_fieldV {s f off : Nat} {x : Operand} {cs : List Value} {v : Value} (hx : ev E x = some (.agg cs.toArray)) (hf : fl1B P s f = some off) (hv : cs[off]? = some v) : PR P E C (.field s x f) v := by
  intro n a w o' ho he hw
  unfold execOp
  rw [ho]
  unfold fl1B at hf
  split at hf
  · rename_i fs hs
    split at hf
    · rename_i fd hfd
      split at hf
      · rename_i k hk
        simp only [Option.some.injEq] at hf
        subst hf
        have hA := run_isAgg (P := P) (t := fd.type) (agg := false) (n := k) ⟨hk⟩ w
        simp [he.eval hx, Instr.field, run_underlying hs, hfd, asAgg, part, hA, hv]
      · cases hf
    · cases hf
  · cases hf
end
end Go.Sx

set_option linter.unusedSimpArgs false
set_option linter.unusedVariables false
namespace Go.Sx
open Go
/-! ## structs compared -/
def fslice (P : Program) (xs : List Value) (f : Field) : List Value := (xs.drop f.offset).take (P.cellsOf f.type)
def eqAt (P : Program) : Nat → TypeId → List Value → List Value → Option Bool
  | 0, _, _, _ => none
  | d + 1, t, xs, ys =>
    match P.underlying t with
    | some .bool => match xs, ys with
      | [.bool a], [.bool b] => some (a == b)
      | _, _ => none
    | some (.int _) => match xs, ys with
      | [.int k a], [.int k' b] => if k = k' then some (a == b) else none
      | _, _ => none
    | some .string => match xs, ys with
      | [.string a], [.string b] => some (a.toList == b.toList)
      | _, _ => none
    | some (.struct fs) => if P.stoodInHeld t = true then none else
      fs.toList.foldr (fun f acc => match acc, (if f.name = "_" then none else eqAt P d f.type (fslice P xs f) (fslice P ys f)) with
        | some r, some b => some (b && r)
        | _, _ => none) (some true)
    | _ => none
def ofC (P : Program) (t : TypeId) (xs : List Value) : Value := match P.underlying t with
  | some (.struct _) => .agg xs.toArray
  | _ => xs.headD .nilFunc
theorem one_cell {xs : List Value} {o n : Nat} {v : Value} (h : (xs.drop o).take n = [v]) : xs[o]? = some v := by
  have h1 : ((xs.drop o).take n)[0]? = some v := by rw [h]; rfl
  rw [List.getElem?_take] at h1
  split at h1
  · rwa [List.getElem?_drop, Nat.add_zero] at h1
  · cases h1
def wideK : TypeDesc → Bool | .struct _ | .array _ _ => true | _ => false
theorem run_part_one {P : Program} {e : TypeId} {kd : TypeDesc} {xs : List Value} {o : Nat} {v : Value} (w : World) (hu : P.underlying e = some kd) (hk : wideK kd = false) (h : xs[o]? = some v) : (part e xs.toArray o).run P w = .ok v w := by
  have hA : (isAgg e).run P w = .ok false w := by
    unfold isAgg
    rw [Sem.run_bind, run_underlying hu w]
    cases kd <;> simp_all [wideK]
  simp [part, hA, h]
theorem run_part_str {P : Program} {e : TypeId} {fs : Array Field} {xs : List Value} {o : Nat} (w : World) (hu : P.underlying e = some (.struct fs)) : (part e xs.toArray o).run P w = .ok (.agg ((xs.drop o).take (P.cellsOf e)).toArray) w := by
  obtain ⟨i, hi⟩ := info_of_underlying hu
  have hA : (isAgg e).run P w = .ok true w := by
    unfold isAgg
    rw [Sem.run_bind, run_underlying hu w]
    simp
  have hS : (sizeOf e).run P w = .ok (P.cellsOf e) w := by simp [sizeOf, typeInfo, hi, Program.cellsOf]
  have hE : xs.toArray.extract o (o + P.cellsOf e) = ((xs.drop o).take (P.cellsOf e)).toArray := by
    apply Array.ext'
    rw [Array.toList_extract]
    simp [List.extract_eq_take_drop]
  simp only [part, Sem.run_bind, hA, Result.andThen_ok, if_true, hS, Sem.run_pure, hE]
theorem run_part_c {P : Program} {e : TypeId} {d : Nat} {xs ys : List Value} {f : Field} {b : Bool} (w : World) (h : eqAt P d f.type (fslice P xs f) (fslice P ys f) = some b) :
    (part f.type xs.toArray f.offset).run P w = .ok (ofC P f.type (fslice P xs f)) w ∧ (part f.type ys.toArray f.offset).run P w = .ok (ofC P f.type (fslice P ys f)) w := by
  cases d with
  | zero => simp [eqAt] at h
  | succ d =>
    unfold eqAt at h
    have one : ∀ {zs : List Value} {kd : TypeDesc} {v : Value}, P.underlying f.type = some kd → wideK kd = false → fslice P zs f = [v] → (part f.type zs.toArray f.offset).run P w = .ok (ofC P f.type (fslice P zs f)) w := by
      intro zs kd v hu hk hz
      rw [run_part_one w hu hk (one_cell hz)]
      unfold ofC
      rw [hu, hz]
      cases kd <;> simp_all [wideK]
    split at h
    · rename_i hu
      split at h
      · rename_i a b' h1 h2
        exact ⟨one hu rfl h1, one hu rfl h2⟩
      · cases h
    · rename_i hu
      split at h
      · rename_i a b' h1 h2
        exact ⟨one hu rfl h1, one hu rfl h2⟩
      · cases h
    · rename_i hu
      split at h
      · rename_i a b' h1 h2
        exact ⟨one hu rfl h1, one hu rfl h2⟩
      · cases h
    · rename_i fs hu
      refine ⟨?_, ?_⟩ <;>
      · rw [run_part_str w hu]; unfold ofC; rw [hu]; rfl
    · cases h
theorem run_eqC {P : Program} : ∀ (d dd : Nat), d ≤ dd → ∀ (t : TypeId) (xs ys : List Value) (r : Bool) (w : World), eqAt P d t xs ys = some r → (Op.equalIn dd t (ofC P t xs) (ofC P t ys)).run P w = .ok r w
  | 0, _, _, _, _, _, _, _, h => by simp [eqAt] at h
  | d + 1, 0, hd, _, _, _, _, _, _ => by omega
  | d + 1, dd + 1, hd, t, xs, ys, r, w, h => by
    unfold eqAt at h
    unfold ofC
    split at h
    · rename_i hu
      rw [hu]
      split at h
      · cases h; exact run_equalIn_bool w dd t _ _ hu
      · cases h
    · rename_i hu
      rw [hu]
      split at h
      · split at h
        · rename_i hk
          subst hk
          cases h; exact run_equalIn_int w dd t _ _ _ _ hu
        · cases h
      · cases h
    · rename_i hu
      rw [hu]
      split at h
      · cases h; exact run_equalIn_string w dd t _ _ hu
      · cases h
    · rename_i fs hu
      rw [hu]
      split at h
      · cases h
      · rename_i hs
        have hfs : P.fieldsOf t = fs := by simp [Program.fieldsOf, hu]
        show (Op.equalIn (dd + 1) t (.agg xs.toArray) (.agg ys.toArray)).run P w = _
        rw [run_equalIn_struct w dd t xs.toArray ys.toArray (by rw [hfs]; exact hu) (by simpa using hs), hfs]
        clear hu hfs
        generalize fs.toList = l at h
        induction l generalizing r with
        | nil => simp only [List.foldr_nil, Option.some.injEq] at h; subst h; simp [Op.eqFields]
        | cons f l ih =>
          rw [List.foldr_cons] at h
          split at h
          · rename_i r' b' hr hb
            split at hb
            · cases hb
            · rename_i hn
              simp only [Option.some.injEq] at h
              subst h
              obtain ⟨p1, p2⟩ := run_part_c (e := t) w hb
              have p3 := run_eqC d dd (by omega) f.type _ _ _ w hb
              simp only [Op.eqFields, hn, ne_eq, not_false_eq_true, if_true, Sem.run_bind, p1, p2, p3, Result.andThen_ok]
              cases b'
              · simp
              · simpa using ih _ hr
          · cases h
    · cases h
section
variable {P : Program} {E : Env} {C : World → Prop}
theorem run_eqV {P : Program} {t : TypeId} {xs ys : List Value} {r : Bool} {d : Nat} (w : World) (hd : d ≤ 10000) (hs : ∃ fs, P.underlying t = some (.struct fs)) (h : eqAt P d t xs ys = some r) : (Op.equal t (.agg xs.toArray) (.agg ys.toArray)).run P w = .ok r w := by
  obtain ⟨fs, hu⟩ := hs
  have := run_eqC d 10000 hd t xs ys r w h
  unfold ofC at this
  rw [hu] at this
  exact this
def isStr (P : Program) (t : TypeId) : Bool := match P.underlying t with | some (.struct _) => true | _ => false
theorem pr_eqA {t t' : TypeId} {x y : Operand} {xs ys : List Value} {r : Bool} (hx : ev E x = some (.agg xs.toArray)) (hy : ev E y = some (.agg ys.toArray)) (hs : isStr P t = true) (hg : P.eqGuardType P.depth t = false) (h : eqAt P 4 t xs ys = some r) : PR P E C (.binOp .eql t x y t') (.bool r) := by
  intro n ac w o ho he hw
  unfold execOp
  rw [ho]
  have hs' : ∃ fs, P.underlying t = some (.struct fs) := by
    unfold isStr at hs; split at hs
    · exact ⟨_, by assumption⟩
    · cases hs
  have h1 := run_eqV w (by decide) hs' h
  have hgd : (eqGuard .eql t x y (.agg xs.toArray) (.agg ys.toArray)).run P w = .ok () w := by simp [eqGuard, hg]
  simp only [he.eval hx, he.eval hy, Sem.run_bind, hgd, Result.andThen_ok, binOp, h1, Sem.run_pure]
theorem pr_neA {t t' : TypeId} {x y : Operand} {xs ys : List Value} {r : Bool} (hx : ev E x = some (.agg xs.toArray)) (hy : ev E y = some (.agg ys.toArray)) (hs : isStr P t = true) (hg : P.eqGuardType P.depth t = false) (h : eqAt P 4 t xs ys = some r) : PR P E C (.binOp .neq t x y t') (.bool (!r)) := by
  intro n ac w o ho he hw
  unfold execOp
  rw [ho]
  have hs' : ∃ fs, P.underlying t = some (.struct fs) := by
    unfold isStr at hs; split at hs
    · exact ⟨_, by assumption⟩
    · cases hs
  have h1 := run_eqV w (by decide) hs' h
  have hgd : (eqGuard .neq t x y (.agg xs.toArray) (.agg ys.toArray)).run P w = .ok () w := by simp [eqGuard, hg]
  simp only [he.eval hx, he.eval hy, Sem.run_bind, hgd, Result.andThen_ok, binOp, h1, Sem.run_pure]
end
end Go.Sx

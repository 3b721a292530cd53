import Derived.Test.YtilggjefbbiccaaDoorSx11
set_option linter.unusedSimpArgs false
set_option linter.unusedVariables false
namespace Go.Sx
open Go

/-! ## functions that hand over blocks of their own -/
def PostO (w0 : World) (H0 : Hp) (Φ : Value → Hp → Blks → Prop) (e : Ending) (w : World) : Prop := ∃ v H' ob, e = .returned v ∧ St [] w0 H0 H' ob w ∧ Φ v H' ob
def FnO (P : Program) (f : FuncId) (args : List Value) (H : Hp) (Φ : Value → Hp → Blks → Prop) : Prop := ∀ w, St [] w H H [] w → Calls P f args.toArray w (PostO w H Φ)

section
variable {P : Program} {n : Nat} {ops : Array Oper} {Q : Exit → Act → World → Prop} {E : Env} {M : List Nat} {w0 : World} {H0 H : Hp} {L : Blks} {C : World → Prop} {rest : List Oper} {dst : Option Nat} {op : Op} {ty : TypeId} {pos : String} {aft : Array Edge}

theorem St.pastO {w w' : World} {H' : Hp} {ob : Blks} (h : St M w0 H0 H L w) (h' : St [] w H H' ob w') : St M w0 H0 H' (L ++ ob) w' := by
  have hob : ∀ p ∈ ob, w.heap.size ≤ p.1 := fun p hp => (h'.mine p hp).resolve_left (by simp)
  have hL : ∀ p ∈ L, p.1 < w.heap.size := fun p hp => h.lt hp
  refine ⟨h'.os.trans h.os, h'.tape.trans h.tape, h'.output.trans h.output, Nat.le_trans h.size h'.size, fun b hb hM => ?_, h'.hp, fun p hp => ?_, fun p hp o => ?_, ?_, fun p hp => ?_, h.fr.trans h'.fr h.size⟩
  · exact (h'.old b (by have := h.size; omega) (by simp)).trans (h.old b hb hM)
  · rcases List.mem_append.1 hp with hp | hp
    · obtain ⟨t, ht⟩ := h.own p hp
      exact ⟨t, (h'.old _ (lt_of_cells ht) (by simp)).trans ht⟩
    · exact h'.own p hp
  · rcases List.mem_append.1 hp with hp | hp
    · cases ho : H' p.1 o with
      | none => rfl
      | some v =>
        have := h'.fr.2 _ _ _ ho (h.sep p hp o)
        have := hL p hp
        omega
    · exact h'.sep p hp o
  · rw [List.map_append, List.nodup_append]
    refine ⟨h.nd, h'.nd, fun a ha b hb e => ?_⟩
    obtain ⟨p, hp, rfl⟩ := List.mem_map.1 ha
    obtain ⟨q, hq, rfl⟩ := List.mem_map.1 hb
    have := hL p hp
    have := hob q hq
    omega
  · rcases List.mem_append.1 hp with hp | hp
    · exact h.mine p hp
    · exact .inr (Nat.le_trans h.size (hob p hp))

theorem TL.callO {f : FuncId} {args : List Value} {Φ : Value → Hp → Blks → Prop} (hE : Enters P E op f args) (hF : FnO P f args H Φ) (hd : fits dst n = true)
    (h : ∀ v H' ob, H.le H' → Φ v H' ob → TL P n ops Q rest (putE dst v E) (St M w0 H0 H' (L ++ ob))) :
    TL P n ops Q ({ dst := dst, op := op, type := ty, pos := pos, after := aft, guard := none } :: rest) E (St M w0 H0 H L) := by
  intro a w he hw
  refine wpW_plain rfl (fun K hK => ?_)
  unfold Oper.wp
  rw [hE n a w _ rfl he]
  refine (hF w (St.pass1 (L1 := []) (L2 := L) hw)).mono ?_
  rintro e w' ⟨v, H', ob, rfl, hst, hΦ⟩
  exact hK _ _ (h v H' ob hst.fr.1 hΦ _ _ (he.put hd) (hw.pastO hst))
theorem TL.callOY {f : FuncId} {args : List Value} {Φ : Value → Hp → Blks → Prop} {j s : Nat} {b : Bool} (hj : dstOf ops j = some s) (hb : lk E s = some (.bool b)) (hE : Enters P E op f args) (hF : FnO P f args H Φ) (hd : fits dst n = true)
    (h : ∀ v H' ob, H.le H' → Φ v H' ob → TL P n ops Q rest (putE dst v E) (St M w0 H0 H' (L ++ ob))) :
    TL P n ops Q ({ dst := dst, op := op, type := ty, pos := pos, after := aft, guard := some (j, b) } :: rest) E (St M w0 H0 H L) := by
  intro a w he hw
  refine wpW_step (fun K hK => ?_)
  have hy := yielded_of he hj hb
  simp only [Region.wanted, hy, BEq.rfl, if_true]
  unfold Oper.wp
  rw [hE n a w _ rfl he]
  refine (hF w (St.pass1 (L1 := []) (L2 := L) hw)).mono ?_
  rintro e w' ⟨v, H', ob, rfl, hst, hΦ⟩
  exact hK _ _ (h v H' ob hst.fr.1 hΦ _ _ (he.put hd) (hw.pastO hst))

/-- a part of an own block -/
theorem pr_ownQ {t k : TypeId} {x : Operand} {b o : Nat} {cs : List Value} (hx : ev E x = some (.pointer (some ⟨b, o, none⟩))) (hL : InL b cs L) [ht : Ty P t true k] (hk : ((cs.drop o).take k).length = k) :
    PR P E (St M w0 H0 H L) (.load t x) (.agg ((cs.drop o).take k).toArray) := pr_ownP hx hL hk.symm rfl

theorem pr_elQ {α : Type} {t k k' j : Nat} {enc : α → List Value} {x : Operand} {v : Value} {l : List α} {i : Nat} {a : α} (h : RdSl H k enc v l) (ha : l[i]? = some a) (hx : ev E x = some (.pointer (some ⟨blk v, off v + i * k + j, none⟩))) [ht : Ty P t true k'] (hk : (((enc a).drop j).take k').length = k') :
    PR P E (St M w0 H0 H L) (.load t x) (.agg (((enc a).drop j).take k').toArray) := pr_elP h ha hx hk rfl

theorem FnO.enter {f : FuncId} {args : List Value} {Φ : Value → Hp → Blks → Prop} {fn : Func} {c : Code}
    (hf : P.funcs[f]? = some fn) (hn : fn.ntmps = n) (hb : fn.body = some c) (hl : Nat.ble args.length n = true)
    (h : ∀ w0, TC P n c (bodyPost P fn (PostO w0 H Φ)) (initE 0 args) (St [] w0 H H [])) : FnO P f args H Φ := by
  intro w hw
  refine calls_of_wp hf hb (h w _ w ⟨?_, rfl, fun t v ht => ?_⟩ hw)
  · have := Nat.le_of_ble_eq_true hl
    simp [hn]
    omega
  · have h1 := (initE_lk args 0 t v ht).2
    simp only [Nat.sub_zero] at h1
    have h2 : t < args.length := (List.getElem?_eq_some_iff.1 h1).1
    rw [Array.getElem?_append_left (by simpa using h2)]
    simpa using h1
/-- the end: what is handed over stands in the list -/
theorem TX.finO {fn : Func} {Φ : Value → Hp → Blks → Prop} {v : Value} {ob : Blks} {F : Blks → Blks} {e : Exit} (he : e = .normal ∨ e = .ret) (hr : ∀ a w, EOk n E a → St [] w0 H0 H L w → (results fn a.tmps).run P w = .ok v w) (hU : Tl ob L F) (h : Φ v H ob) :
    TX n (bodyPost P fn (PostO w0 H0 Φ) e) E (St [] w0 H0 H L) :=
  TX.end_ e he hr fun w hw => by
    obtain ⟨R, hp, _⟩ := hU.perm
    have h1 := hw.perm (hp.trans List.perm_append_comm)
    exact ⟨v, H, ob, rfl, h1.dropN, h⟩
end
end Go.Sx

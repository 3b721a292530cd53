import Derived.Test.YtilggjefbbiccaaDoorSx13
set_option linter.unusedSimpArgs false
set_option linter.unusedVariables false
namespace Go.Sx
open Go

/-! ## functions that may write blocks of one's own, and put others in their place -/
def PostX (K : List Nat) (w0 : World) (H0 : Hp) (Φ : Value → Hp → Blks → Prop) (e : Ending) (w : World) : Prop := ∃ v H' L', e = .returned v ∧ St K w0 H0 H' L' w ∧ Φ v H' L'
def FnX (P : Program) (f : FuncId) (args : List Value) (H : Hp) (L1 : Blks) (Φ : Value → Hp → Blks → Prop) : Prop := ∀ w, St (keys L1) w H H L1 w → Calls P f args.toArray w (PostX (keys L1) w H Φ)

section
variable {P : Program} {n : Nat} {ops : Array Oper} {Q : Exit → Act → World → Prop} {E : Env} {M : List Nat} {w0 : World} {H0 H : Hp} {L : Blks} {C : World → Prop} {rest : List Oper} {dst : Option Nat} {op : Op} {ty : TypeId} {pos : String} {aft : Array Edge}

theorem St.pastX {L1 L1' L2 : Blks} {w w' : World} {H' : Hp} (h : St M w0 H0 H (L1 ++ L2) w) (h' : St (keys L1) w H H' L1' w') : St M w0 H0 H' (L1' ++ L2) w' := by
  have hnd := h.nd
  rw [List.map_append, List.nodup_append] at hnd
  have hmine : ∀ p ∈ L1', p.1 ∈ M ∨ w0.heap.size ≤ p.1 := fun p hp => by
    rcases h'.mine p hp with hm | hm
    · obtain ⟨q, hq, he⟩ := List.mem_map.1 hm
      have := h.mine q (List.mem_append_left _ hq)
      rwa [he] at this
    · have := h.size; right; omega
  have hL2 : ∀ p ∈ L2, p.1 < w.heap.size := fun p hp => h.lt (List.mem_append_right _ hp)
  have hL2k : ∀ p ∈ L2, p.1 ∉ keys L1 := fun p hp hm => hnd.2.2 _ hm _ (List.mem_map.2 ⟨p, hp, rfl⟩) rfl
  refine ⟨h'.os.trans h.os, h'.tape.trans h.tape, h'.output.trans h.output, Nat.le_trans h.size h'.size, fun b hb hM => ?_, h'.hp, fun p hp => ?_, fun p hp o => ?_, ?_, fun p hp => ?_, h.fr.trans h'.fr h.size⟩
  · have hnk : b ∉ keys L1 := by
      intro hm
      obtain ⟨p, hp, rfl⟩ := List.mem_map.1 hm
      rcases h.mine p (List.mem_append_left _ hp) with hx | hx
      · exact hM hx
      · omega
    exact (h'.old b (by have := h.size; omega) hnk).trans (h.old b hb hM)
  · rcases List.mem_append.1 hp with hp | hp
    · exact h'.own p hp
    · obtain ⟨t, ht⟩ := h.own p (List.mem_append_right _ hp)
      exact ⟨t, (h'.old _ (lt_of_cells ht) (hL2k p hp)).trans ht⟩
  · rcases List.mem_append.1 hp with hp | hp
    · exact h'.sep p hp o
    · cases ho : H' p.1 o with
      | none => rfl
      | some v =>
        have h1 := h'.fr.2 _ _ _ ho (h.sep p (List.mem_append_right _ hp) o)
        have h2 := hL2 p hp
        omega
  · rw [List.map_append, List.nodup_append]
    refine ⟨h'.nd, hnd.2.1, fun a ha b hb e => ?_⟩
    obtain ⟨p, hp, rfl⟩ := List.mem_map.1 ha
    obtain ⟨q, hq, rfl⟩ := List.mem_map.1 hb
    rcases h'.mine p hp with hm | hm
    · exact hL2k q hq (e ▸ hm)
    · have := hL2 q hq; omega
  · rcases List.mem_append.1 hp with hp | hp
    · exact hmine p hp
    · exact h.mine p (List.mem_append_right _ hp)

theorem TL.callX {f : FuncId} {args : List Value} {L1 L2 : Blks} {Φ : Value → Hp → Blks → Prop} (hE : Enters P E op f args) (hF : FnX P f args H L1 Φ) (hd : fits dst n = true)
    (h : ∀ v H' L1', H.le H' → Φ v H' L1' → TL P n ops Q rest (putE dst v E) (St M w0 H0 H' (L1' ++ L2))) :
    TL P n ops Q ({ dst := dst, op := op, type := ty, pos := pos, after := aft, guard := none } :: rest) E (St M w0 H0 H (L1 ++ L2)) := by
  intro a w he hw
  refine wpW_plain rfl (fun K hK => ?_)
  unfold Oper.wp
  rw [hE n a w _ rfl he]
  refine (hF w hw.pass1).mono ?_
  rintro e w' ⟨v, H', L1', rfl, hst, hΦ⟩
  exact hK _ _ (h v H' L1' hst.fr.1 hΦ _ _ (he.put hd) (hw.pastX hst))
theorem TL.callX0 {f : FuncId} {args : List Value} {L1 : Blks} {Φ : Value → Hp → Blks → Prop} (hE : Enters P E op f args) (hF : FnX P f args H L1 Φ) (hd : fits dst n = true)
    (h : ∀ v H' L1', H.le H' → Φ v H' L1' → TL P n ops Q rest (putE dst v E) (St M w0 H0 H' L1')) :
    TL P n ops Q ({ dst := dst, op := op, type := ty, pos := pos, after := aft, guard := none } :: rest) E (St M w0 H0 H L1) := by
  have := TL.callX (M := M) (w0 := w0) (H0 := H0) (ops := ops) (Q := Q) (rest := rest) (ty := ty) (pos := pos) (aft := aft) (L2 := []) hE hF hd (fun v H' L1' h1 h2 => by rw [List.append_nil]; exact h v H' L1' h1 h2)
  rwa [List.append_nil] at this
theorem FnX.mono {f : FuncId} {args : List Value} {L1 : Blks} {Φ Φ' : Value → Hp → Blks → Prop} (h : FnX P f args H L1 Φ) (hi : ∀ v H' L', Φ v H' L' → Φ' v H' L') : FnX P f args H L1 Φ' := fun w hw => (h w hw).mono (by
  rintro e w' ⟨v, H', L', rfl, h1, h2⟩
  exact ⟨v, H', L', rfl, h1, hi _ _ _ h2⟩)
theorem FnX.enter {f : FuncId} {args : List Value} {L1 : Blks} {Φ : Value → Hp → Blks → Prop} {fn : Func} {c : Code}
    (hf : P.funcs[f]? = some fn) (hn : fn.ntmps = n) (hb : fn.body = some c) (hl : Nat.ble args.length n = true)
    (h : ∀ w0, TC P n c (bodyPost P fn (PostX (keys L1) w0 H Φ)) (initE 0 args) (St (keys L1) w0 H H L1)) : FnX P f args H L1 Φ := by
  intro w hw
  refine calls_of_wp hf hb (h w _ w ⟨?_, rfl, fun t v ht => ?_⟩ hw)
  · have := Nat.le_of_ble_eq_true hl
    simp [hn]
    omega
  · have h1 := (initE_lk args 0 t v ht).2
    simp only [Nat.sub_zero] at h1
    have h2 : t < args.length := (List.getElem?_eq_some_iff.1 h1).1
    rw [Array.getElem?_append_left (by simpa using h2)]
    simpa using h1
theorem TX.finX {fn : Func} {K : List Nat} {Φ : Value → Hp → Blks → Prop} {v : Value} {L1 : Blks} {e : Exit} (he : e = .normal ∨ e = .ret) (hr : ∀ a w, EOk n E a → St K w0 H0 H L w → (results fn a.tmps).run P w = .ok v w)
    (hL : ∀ w, St K w0 H0 H L w → St K w0 H0 H L1 w) (h : Φ v H L1) : TX n (bodyPost P fn (PostX K w0 H0 Φ) e) E (St K w0 H0 H L) :=
  TX.end_ e he hr fun w hw => ⟨v, H, L1, rfl, hL w hw, h⟩
end
end Go.Sx

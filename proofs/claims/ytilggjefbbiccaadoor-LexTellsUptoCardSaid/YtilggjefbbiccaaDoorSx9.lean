import Derived.Test.YtilggjefbbiccaaDoorSx8
set_option linter.unusedSimpArgs false
set_option linter.unusedVariables false
namespace Go.Sx
open Go

/-- Q, but nothing at a panic -/
def NP (Q : Exit → Act → World → Prop) : Exit → Act → World → Prop
  | .panic _, _, _ => False
  | e, a, w => Q e a w
theorem NP.imp {Q : Exit → Act → World → Prop} : ∀ (e : Exit) (a : Act) (w : World), NP Q e a w → Q e a w := fun e a w h => by
  cases e <;> first | exact h | exact (h : False).elim

/-- w' is w with new blocks -/
structure Ext (w w' : World) : Prop where
  os : w'.os = w.os
  tape : w'.tape = w.tape
  output : w'.output = w.output
  size : w.heap.size ≤ w'.heap.size
  same : ∀ b, b < w.heap.size → w'.heap[b]? = w.heap[b]?
theorem Ext.refl (w : World) : Ext w w := ⟨rfl, rfl, rfl, Nat.le_refl _, fun _ _ => rfl⟩
theorem Ext.trans {a b c : World} (h : Ext a b) (k : Ext b c) : Ext a c :=
  ⟨k.os.trans h.os, k.tape.trans h.tape, k.output.trans h.output, Nat.le_trans h.size k.size, fun i hi => (k.same i (by have := h.size; omega)).trans (h.same i hi)⟩
theorem Ext.st {M : List Nat} {w0 w w' : World} {H0 H : Hp} {L : Blks} (h : Ext w w') (hw : St M w0 H0 H L w) : St M w0 H0 H L w' := by
  refine ⟨h.os.trans hw.os, h.tape.trans hw.tape, h.output.trans hw.output, Nat.le_trans hw.size h.size, fun b hb hM => (h.same b (by have := hw.size; omega)).trans (hw.old b hb hM), fun b o v hv => ?_, fun p hp => ?_, hw.sep, hw.nd, hw.mine, hw.fr⟩
  · have h1 := hw.hp b o v hv
    rw [cell_of_heap (h.same b (lt_of_cell h1))]; exact h1
  · obtain ⟨t, ht⟩ := hw.own p hp
    exact ⟨t, (h.same _ (lt_of_cells ht)).trans ht⟩
theorem Ext.of {w w' : World} {H H' : Hp} {L : Blks} (h : St [] w H H' L w') : Ext w w' := ⟨h.os, h.tape, h.output, h.size, fun b hb => h.old b hb (by simp)⟩
theorem Ext.alloc (w : World) (o : Obj) : Ext w (w.alloc o) := ⟨rfl, rfl, rfl, by simp, fun b hb => RowKit.Below.heap_alloc w _ b hb⟩

/-- an operation with what is shown of it: 1: its value in every world; 2: its value in every world that has more blocks; 3: what it comes to, and that it only lays blocks; else: what it comes to -/
def w1 (P : Program) (ops : Array Oper) (Q : Exit → Act → World → Prop) (f : Nat) (o : Oper) (K : Act → World → Prop) (a : Act) (w : World) : Prop :=
  if Region.wanted o (yielded ops a.tmps) then (match f with
    | 1 => ∃ v, (∀ w', (execOp a.eval o).run P w' = .ok (.value v) w') ∧ K (a.put o.dst v) w
    | 2 => ∃ v, (∀ w', Ext w w' → (execOp a.eval o).run P w' = .ok (.value v) w') ∧ K (a.put o.dst v) w
    | _ => o.wp P a w (fun a' w' => (f = 3 → Ext w w') ∧ K a' w') Q) else K (a.put o.dst undef) w

def wpF (P : Program) (ops : Array Oper) (Q : Exit → Act → World → Prop) : List (Nat × Oper) → Act → World → Prop
  | [], a, w => Q .normal a w
  | x :: r, a, w => w1 P ops Q x.1 x.2 (wpF P ops Q r) a w

section
variable {P : Program} {ops : Array Oper} {Q : Exit → Act → World → Prop}

theorem w1_mono {f : Nat} {o : Oper} {K K' : Act → World → Prop} (h : ∀ a w, K a w → K' a w) {a : Act} {w : World} (hh : w1 P ops Q f o K a w) : w1 P ops Q f o K' a w := by
  unfold w1 at *
  split
  · rename_i hw
    rw [if_pos hw] at hh
    split at hh
    · obtain ⟨v, h1, h2⟩ := hh; exact ⟨v, h1, h _ _ h2⟩
    · obtain ⟨v, h1, h2⟩ := hh; exact ⟨v, h1, h _ _ h2⟩
    · exact Oper.wp_mono (fun a w hq => ⟨hq.1, h a w hq.2⟩) hh
  · rename_i hw
    rw [if_neg hw] at hh
    exact h _ _ hh

theorem wpOp_of_w1 {f i : Nat} {o : Oper} {K : Act → World → Prop} (hi : ops[i]? = some o) {a : Act} {w : World} (hh : w1 P ops Q f o K a w) : wpOp P ops Q i K a w := by
  unfold w1 at hh
  unfold wpOp
  rw [hi]
  simp only []
  split at hh
  · rename_i hw
    rw [if_pos hw]
    left
    split at hh
    · obtain ⟨v, h1, h2⟩ := hh; unfold Oper.wp; rw [h1 w]; exact h2
    · obtain ⟨v, h1, h2⟩ := hh; unfold Oper.wp; rw [h1 w (Ext.refl w)]; exact h2
    · exact Oper.wp_mono (fun a w hq => hq.2) hh
  · rename_i hw
    rw [if_neg hw]; exact hh

def notSelB (o : Oper) : Bool := match o.op with
  | .select _ _ => false
  | _ => true
theorem notSel {o : Oper} (h : notSelB o = true) : ∀ cs b, o.op ≠ .select cs b := by
  intro cs b e
  unfold notSelB at h
  rw [e] at h; cases h

/-- x ahead of y may as well stand behind it -/
def cmB (ops : Array Oper) (fx : Nat) (x : Oper) (fy : Nat) (y : Oper) : Bool :=
  x.apart ops y && (notSelB x && (notSelB y && (Nat.beq fx 1 || (Nat.beq fx 2 && (Nat.beq fy 1 || (Nat.beq fy 2 || Nat.beq fy 3))))))

theorem w1_swap {fx fy : Nat} {x y : Oper} (h : cmB ops fx x fy y = true) {K : Act → World → Prop} {a : Act} {w : World}
    (hh : w1 P ops (NP Q) fx x (w1 P ops (NP Q) fy y K) a w) : w1 P ops (NP Q) fy y (w1 P ops (NP Q) fx x K) a w := by
  simp only [cmB, Bool.and_eq_true, Bool.or_eq_true] at h
  obtain ⟨hap, hsx, hsy, hf⟩ := h
  have hsx := notSel hsx
  have hsy := notSel hsy
  obtain ⟨h1, h2, h3⟩ := Oper.apart_spec hap
  have ex : ∀ (a : Act) (u : Value), execOp (a.put y.dst u).eval x = execOp a.eval x := fun a u => execOp_put x hsx a y.dst u h3
  have wx : ∀ (a : Act) (u : Value), Region.wanted x (yielded ops (a.put y.dst u).tmps) = Region.wanted x (yielded ops a.tmps) := fun a u => wanted_put x a y.dst u h3
  have ey : ∀ (a : Act) (u : Value), execOp (a.put x.dst u).eval y = execOp a.eval y := fun a u => execOp_put y hsy a x.dst u h1
  have wy : ∀ (a : Act) (u : Value), Region.wanted y (yielded ops (a.put x.dst u).tmps) = Region.wanted y (yielded ops a.tmps) := fun a u => wanted_put y a x.dst u h1
  have cm : ∀ (a : Act) (u v : Value), (a.put x.dst v).put y.dst u = (a.put y.dst u).put x.dst v := fun a u v => Act.put_comm a v u h2
  -- x's part: its value, and what follows
  by_cases hwx : Region.wanted x (yielded ops a.tmps) = true
  case neg =>
    -- x is passed over
    have hh' : w1 P ops (NP Q) fy y K (a.put x.dst undef) w := by unfold w1 at hh; rw [if_neg hwx] at hh; unfold w1; exact hh
    have key : ∀ (a' : Act) (u : Value), Region.wanted x (yielded ops a'.tmps) ≠ true → ∀ w', K ((a'.put x.dst undef).put y.dst u) w' → w1 P ops (NP Q) fx x K (a'.put y.dst u) w' := by
      intro a' u hn w' hk
      unfold w1
      rw [wx, if_neg hn, ← cm]; exact hk
    unfold w1 at hh' ⊢
    rw [wy] at hh'
    by_cases hwy : Region.wanted y (yielded ops a.tmps) = true
    case neg => rw [if_neg hwy] at hh' ⊢; exact key a undef hwx w hh'
    case pos =>
      rw [if_pos hwy] at hh' ⊢
      split
      · obtain ⟨u, hu, hk⟩ := hh'; exact ⟨u, fun w' => by rw [← ey a undef]; exact hu w', key a u hwx w hk⟩
      · obtain ⟨u, hu, hk⟩ := hh'; exact ⟨u, fun w' hx => by rw [← ey a undef]; exact hu w' hx, key a u hwx w hk⟩
      · rename_i hf1 hf2
        have hh' : y.wp P (a.put x.dst undef) w (fun a' w' => (fy = 3 → Ext w w') ∧ K a' w') (NP Q) := by
          split at hh'
          · exact absurd rfl hf1
          · exact absurd rfl hf2
          · exact hh'
        unfold Oper.wp at hh' ⊢
        rw [ey] at hh'
        generalize (execOp a.eval y).run P w = r at *
        cases r with
        | ok n w' =>
          cases n <;> simp only [Oper.upon] at hh' ⊢
          case value u => exact ⟨hh'.1, key a u hwx _ hh'.2⟩
          case skip => exact ⟨hh'.1, key a undef hwx _ hh'.2⟩
          case defer d =>
            have := key { a with defers := d :: a.defers } undef hwx w'
            refine ⟨hh'.1, this ?_⟩
            rw [← Act.put_defers]; exact hh'.2
          case enter f args =>
            refine Calls.mono hh' fun e w'' he => ?_
            cases e with
            | returned u => exact ⟨he.1, key a u hwx _ he.2⟩
            | panicked c => exact he.elim
            | outgrown => exact he
          case row row args => exact Rows.mono hh' fun u w'' he => ⟨he.1, key a u hwx _ he.2⟩
        | halt x w' =>
          cases x <;> simp only [Oper.upon] at hh' ⊢
          case panic u => exact hh'.elim
  case pos =>
  rcases hf with hf | ⟨hf, hg⟩
  · -- x is pure
    obtain rfl := Nat.eq_of_beq_eq_true hf
    obtain ⟨v, hv, hh'⟩ : ∃ v, (∀ w', (execOp a.eval x).run P w' = .ok (.value v) w') ∧ w1 P ops (NP Q) fy y K (a.put x.dst v) w := by
      unfold w1 at hh; rw [if_pos hwx] at hh
      obtain ⟨v, hv, hk⟩ := hh
      exact ⟨v, hv, by unfold w1; exact hk⟩
    have key : ∀ (a' : Act) (u : Value), execOp a'.eval x = execOp a.eval x → Region.wanted x (yielded ops a'.tmps) = true → ∀ w', K ((a'.put x.dst v).put y.dst u) w' → w1 P ops (NP Q) 1 x K (a'.put y.dst u) w' := by
      intro a' u he hn w' hk
      unfold w1
      rw [wx, if_pos hn]
      exact ⟨v, fun w2 => by rw [ex, he]; exact hv w2, by rw [← cm]; exact hk⟩
    unfold w1 at hh'
    rw [wy] at hh'
    show w1 P ops (NP Q) fy y _ a w
    unfold w1
    by_cases hwy : Region.wanted y (yielded ops a.tmps) = true
    case neg => rw [if_neg hwy] at hh' ⊢; exact key a undef rfl hwx w hh'
    case pos =>
      rw [if_pos hwy] at hh' ⊢
      split
      · obtain ⟨u, hu, hk⟩ := hh'; exact ⟨u, fun w' => by rw [← ey a v]; exact hu w', key a u rfl hwx w hk⟩
      · obtain ⟨u, hu, hk⟩ := hh'; exact ⟨u, fun w' hx => by rw [← ey a v]; exact hu w' hx, key a u rfl hwx w hk⟩
      · rename_i hf1 hf2
        have hh' : y.wp P (a.put x.dst v) w (fun a' w' => (fy = 3 → Ext w w') ∧ K a' w') (NP Q) := by
          split at hh'
          · exact absurd rfl hf1
          · exact absurd rfl hf2
          · exact hh'
        unfold Oper.wp at hh' ⊢
        rw [ey] at hh'
        generalize (execOp a.eval y).run P w = r at *
        cases r with
        | ok n w' =>
          cases n <;> simp only [Oper.upon] at hh' ⊢
          case value u => exact ⟨hh'.1, key a u rfl hwx _ hh'.2⟩
          case skip => exact ⟨hh'.1, key a undef rfl hwx _ hh'.2⟩
          case defer d =>
            have := key { a with defers := d :: a.defers } undef rfl hwx w'
            refine ⟨hh'.1, this ?_⟩
            rw [← Act.put_defers]; exact hh'.2
          case enter f args =>
            refine Calls.mono hh' fun e w'' he => ?_
            cases e with
            | returned u => exact ⟨he.1, key a u rfl hwx _ he.2⟩
            | panicked c => exact he.elim
            | outgrown => exact he
          case row row args => exact Rows.mono hh' fun u w'' he => ⟨he.1, key a u rfl hwx _ he.2⟩
        | halt x w' =>
          cases x <;> simp only [Oper.upon] at hh' ⊢
          case panic u => exact hh'.elim
  · -- x reads, y only lays blocks
    obtain rfl := Nat.eq_of_beq_eq_true hf
    obtain ⟨v, hv, hh'⟩ : ∃ v, (∀ w', Ext w w' → (execOp a.eval x).run P w' = .ok (.value v) w') ∧ w1 P ops (NP Q) fy y K (a.put x.dst v) w := by
      unfold w1 at hh; rw [if_pos hwx] at hh
      obtain ⟨v, hv, hk⟩ := hh
      exact ⟨v, hv, by unfold w1; exact hk⟩
    have key : ∀ (a' : Act) (u : Value) (w' : World), execOp a'.eval x = execOp a.eval x → Region.wanted x (yielded ops a'.tmps) = true → Ext w w' → K ((a'.put x.dst v).put y.dst u) w' → w1 P ops (NP Q) 2 x K (a'.put y.dst u) w' := by
      intro a' u w' he hn hx hk
      unfold w1
      rw [wx, if_pos hn]
      exact ⟨v, fun w2 hx2 => by rw [ex, he]; exact hv w2 (hx.trans hx2), by rw [← cm]; exact hk⟩
    unfold w1 at hh'
    rw [wy] at hh'
    show w1 P ops (NP Q) fy y _ a w
    unfold w1
    by_cases hwy : Region.wanted y (yielded ops a.tmps) = true
    case neg => rw [if_neg hwy] at hh' ⊢; exact key a undef w rfl hwx (Ext.refl w) hh'
    case pos =>
      rw [if_pos hwy] at hh' ⊢
      rcases hg with hg | hg | hg <;> obtain rfl := Nat.eq_of_beq_eq_true hg
      · obtain ⟨u, hu, hk⟩ := hh'; exact ⟨u, fun w' => by rw [← ey a v]; exact hu w', key a u w rfl hwx (Ext.refl w) hk⟩
      · obtain ⟨u, hu, hk⟩ := hh'; exact ⟨u, fun w' hx => by rw [← ey a v]; exact hu w' hx, key a u w rfl hwx (Ext.refl w) hk⟩
      · have hh' : y.wp P (a.put x.dst v) w (fun a' w' => (3 = 3 → Ext w w') ∧ K a' w') (NP Q) := hh'
        show y.wp P a w (fun a' w' => (3 = 3 → Ext w w') ∧ w1 P ops (NP Q) 2 x K a' w') (NP Q)
        unfold Oper.wp at hh' ⊢
        rw [ey] at hh'
        generalize (execOp a.eval y).run P w = r at *
        cases r with
        | ok n w' =>
          cases n <;> simp only [Oper.upon] at hh' ⊢
          case value u => exact ⟨hh'.1, key a u _ rfl hwx (hh'.1 trivial) hh'.2⟩
          case skip => exact ⟨hh'.1, key a undef _ rfl hwx (hh'.1 trivial) hh'.2⟩
          case defer d =>
            have := key { a with defers := d :: a.defers } undef w' rfl hwx (hh'.1 trivial)
            refine ⟨hh'.1, this ?_⟩
            rw [← Act.put_defers]; exact hh'.2
          case enter f args =>
            refine Calls.mono hh' fun e w'' he => ?_
            cases e with
            | returned u => exact ⟨he.1, key a u _ rfl hwx (he.1 trivial) he.2⟩
            | panicked c => exact he.elim
            | outgrown => exact he
          case row row args => exact Rows.mono hh' fun u w'' he => ⟨he.1, key a u _ rfl hwx (he.1 trivial) he.2⟩
        | halt x w' =>
          cases x <;> simp only [Oper.upon] at hh' ⊢
          case panic u => exact hh'.elim

/-- the operations in an order -/
def pickF (l : List Oper) : List (Nat × Nat) → List (Nat × Oper)
  | [] => []
  | x :: r => match nthL l x.1 with
    | some o => (x.2, o) :: pickF l r
    | none => pickF l r

def pairB (l : List Oper) (X : List (Nat × Nat)) (x y : Nat × Nat) : Bool :=
  reachB l X x.1 l.length y.1 || (match nthL l x.1, nthL l y.1 with
    | some ox, some oy => cmB l.toArray x.2 ox y.2 oy
    | _, _ => false)
def pairsB (l : List Oper) (X : List (Nat × Nat)) : List (Nat × Nat) → Bool
  | [] => true
  | x :: r => r.all (fun y => pairB l X x y) && pairsB l X r
/-- the order serves all that the edges and X let -/
def ordB (l : List Oper) (X : List (Nat × Nat)) (ord : List (Nat × Nat)) : Bool :=
  pairsB l X ord && (Nat.beq ord.length l.length && ((List.range l.length).all fun i => ord.any fun x => Nat.beq x.1 i))

inductive PairsOk (l : List Oper) (s : List Nat) : List (Nat × Nat) → Prop
  | nil : PairsOk l s []
  | cons {x : Nat × Nat} {r : List (Nat × Nat)} (h : ∀ y ∈ r, Bef x.1 y.1 s ∨ ∃ ox oy, nthL l x.1 = some ox ∧ nthL l y.1 = some oy ∧ cmB l.toArray x.2 ox y.2 oy = true) (k : PairsOk l s r) : PairsOk l s (x :: r)

theorem PairsOk.of {l : List Oper} {X : List (Nat × Nat)} {s : List Nat} (hl : Lin l.toArray X s) : ∀ {ord : List (Nat × Nat)}, pairsB l X ord = true → PairsOk l s ord
  | [], _ => .nil
  | x :: r, h => by
    simp only [pairsB, Bool.and_eq_true] at h
    refine .cons (fun y hy => ?_) (PairsOk.of hl h.2)
    have := List.all_eq_true.1 h.1 y hy
    simp only [pairB, Bool.or_eq_true] at this
    rcases this with h1 | h1
    · exact .inl (reachB_bef hl _ _ h1)
    · split at h1
      · rename_i ox oy hx hy; exact .inr ⟨ox, oy, hx, hy, h1⟩
      · cases h1

theorem wpF_front {l : List Oper} {x : Nat × Nat} {ox : Oper} (hx : nthL l x.1 = some ox) {post : List (Nat × Nat)} : ∀ {pre : List (Nat × Nat)},
    (∀ y ∈ pre, ∃ oy, nthL l y.1 = some oy ∧ cmB l.toArray y.2 oy x.2 ox = true) → ∀ a w,
    wpF P l.toArray (NP Q) (pickF l (pre ++ x :: post)) a w → wpF P l.toArray (NP Q) ((x.2, ox) :: pickF l (pre ++ post)) a w
  | [], _, a, w, h => by simpa [pickF, hx] using h
  | y :: pre, hc, a, w, h => by
    obtain ⟨oy, hy, hcm⟩ := hc y (by simp)
    have ih := wpF_front (post := post) hx (pre := pre) (fun z hz => hc z (List.mem_cons_of_mem _ hz))
    simp only [List.cons_append, pickF, hy] at h ⊢
    have h2 := w1_mono (ih) h
    exact w1_swap hcm h2

theorem PairsOk.drop {l : List Oper} {i : Nat} {s : List Nat} : ∀ {pre post : List (Nat × Nat)} {x : Nat × Nat}, PairsOk l (i :: s) (pre ++ x :: post) → x.1 = i → (i :: s).Nodup → (∀ y ∈ pre ++ post, y.1 ≠ i) → PairsOk l s (pre ++ post)
  | [], post, x, h, hx, hn, hne => by
    cases h with
    | cons h k =>
      have key : ∀ {r : List (Nat × Nat)}, PairsOk l (i :: s) r → (∀ y ∈ r, y.1 ≠ i) → PairsOk l s r := by
        intro r hr hnr
        induction hr with
        | nil => exact .nil
        | cons h k ih =>
          refine .cons (fun y hy => ?_) (ih (fun y hy => hnr y (List.mem_cons_of_mem _ hy)))
          rcases h y hy with (⟨e, _⟩ | h1) | h1
          · exact absurd e.symm (hnr _ (by simp))
          · exact .inl h1
          · exact .inr h1
      exact key k (by simpa using hne)
  | z :: pre, post, x, h, hx, hn, hne => by
    cases h with
    | cons h k =>
      refine .cons (fun y hy => ?_) (PairsOk.drop k hx hn (fun y hy => hne y (List.mem_cons_of_mem _ hy)))
      have hy' : y ∈ pre ++ x :: post := by
        rcases List.mem_append.1 hy with h | h
        · exact List.mem_append_left _ h
        · exact List.mem_append_right _ (List.mem_cons_of_mem _ h)
      rcases h y hy' with (⟨e, _⟩ | h1) | h1
      · exact absurd e.symm (hne _ (by simp))
      · exact .inl h1
      · exact .inr h1

theorem wpOps_of_wpF {l : List Oper} : ∀ (s : List Nat) (ord : List (Nat × Nat)), s.Nodup → (ord.map (·.1)).Nodup → (∀ i, i ∈ s ↔ i ∈ ord.map (·.1)) → (∀ i ∈ s, i < l.length) → PairsOk l s ord → ∀ a w,
    wpF P l.toArray (NP Q) (pickF l ord) a w → wpOps P l.toArray (NP Q) s a w
  | [], ord, _, _, hm, _, _, a, w, h => by
    have : ord = [] := by
      cases ord with
      | nil => rfl
      | cons x r => have := (hm x.1).2 (by simp); simp at this
    subst this
    simpa [pickF, wpF, wpOps] using h
  | i :: s, ord, hn, ho, hm, hlt, hp, a, w, h => by
    obtain ⟨x, hx, hxi⟩ := List.mem_map.1 ((hm i).1 (by simp))
    obtain ⟨pre, post, rfl⟩ := List.append_of_mem hx
    have hil : i < l.length := hlt i (by simp)
    have hox : nthL l x.1 = some l[i] := by rw [nthL_eq, hxi]; simp [hil]
    have hn' := List.nodup_cons.1 hn
    have hpre : ∀ y ∈ pre, ∃ oy, nthL l y.1 = some oy ∧ cmB l.toArray y.2 oy x.2 l[i] = true := by
      intro y hy
      have key : ∀ {pre : List (Nat × Nat)}, PairsOk l (i :: s) (pre ++ x :: post) → y ∈ pre → Bef y.1 x.1 (i :: s) ∨ ∃ oy ox, nthL l y.1 = some oy ∧ nthL l x.1 = some ox ∧ cmB l.toArray y.2 oy x.2 ox = true := by
        intro pre hp hy
        induction pre with
        | nil => cases hy
        | cons z pre ih =>
          cases hp with
          | cons h k =>
            rcases List.mem_cons.1 hy with rfl | hy
            · exact h x (by simp)
            · exact ih k hy
      have hyi : y.1 ≠ i := by
        intro e
        simp only [List.map_append, List.map_cons] at ho
        have := (List.nodup_append.1 ho).2.2 y.1 (List.mem_map.2 ⟨y, hy, rfl⟩) x.1 (by simp)
        exact this (e.trans hxi.symm)
      rcases key hp hy with hb | ⟨oy, ox, h1, h2, h3⟩
      · rw [hxi] at hb
        exact absurd hb (not_bef_head hn hyi)
      · rw [hox] at h2
        obtain rfl := Option.some.inj h2
        exact ⟨oy, h1, h3⟩
    have h2 := wpF_front hox hpre a w h
    have hne : ∀ y ∈ pre ++ post, y.1 ≠ i := by
      intro y hy e
      have hperm : (pre ++ x :: post).Perm (x :: (pre ++ post)) := List.perm_middle
      have := (hperm.map (·.1)).nodup_iff.1 ho
      rw [List.map_cons, List.nodup_cons] at this
      exact this.1 (List.mem_map.2 ⟨y, hy, by rw [hxi]; exact e⟩)
    have hperm : (pre ++ x :: post).Perm (x :: (pre ++ post)) := List.perm_middle
    have ho2 := (hperm.map (·.1)).nodup_iff.1 ho
    rw [List.map_cons, List.nodup_cons] at ho2
    rw [wpOps_cons]
    have hget : l.toArray[i]? = some l[i] := by simp [hil]
    refine wpOp_of_w1 hget (w1_mono (fun a' w' hh => ?_) h2)
    refine wpOps_of_wpF s (pre ++ post) hn'.2 ho2.2 (fun j => ?_) (fun j hj => hlt j (List.mem_cons_of_mem _ hj)) (hp.drop hxi hn hne) a' w' hh
    constructor
    · intro hj
      have := (hm j).1 (List.mem_cons_of_mem _ hj)
      have := (hperm.map (·.1)).mem_iff.1 this
      rcases List.mem_cons.1 this with e | h
      · exact absurd (show i ∈ s by have e' : j = i := e.trans hxi; rw [← e']; exact hj) hn'.1
      · exact h
    · intro hj
      have := (hm j).2 ((hperm.map (·.1)).mem_iff.2 (List.mem_cons_of_mem _ hj))
      rcases List.mem_cons.1 this with e | h
      · obtain ⟨y, hy, hyj⟩ := List.mem_map.1 hj
        exact absurd (by rw [hyj, e]) (hne y hy)
      · exact h

def nodupB : List Nat → Bool
  | [] => true
  | x :: l => l.all (fun y => !Nat.beq x y) && nodupB l
theorem nodupB_spec : ∀ {l : List Nat}, nodupB l = true → l.Nodup
  | [], _ => by simp
  | x :: l, h => by
    simp only [nodupB, Bool.and_eq_true] at h
    refine List.nodup_cons.2 ⟨fun hx => ?_, nodupB_spec h.2⟩
    have := List.all_eq_true.1 h.1 x hx
    simp [Nat.beq_refl] at this
/-- a list of n different numbers that holds all below n holds no other -/
theorem pigeon : ∀ {n : Nat} {l : List Nat}, l.Nodup → l.length = n → (∀ i, i < n → i ∈ l) → ∀ i ∈ l, i < n
  | 0, l, _, hl, _, i, hi => by
    have := List.length_pos_of_mem hi
    omega
  | n + 1, l, hn, hl, hall, i, hi => by
    obtain ⟨a, b, rfl⟩ := List.append_of_mem (hall n (by omega))
    have hperm : (a ++ n :: b).Perm (n :: (a ++ b)) := List.perm_middle
    have hn2 := hperm.nodup_iff.1 hn
    rw [List.nodup_cons] at hn2
    rcases List.mem_cons.1 (hperm.mem_iff.1 hi) with rfl | hi'
    · omega
    · have := pigeon (n := n) hn2.2 (by have := hperm.length_eq; simp at this hl; simp; omega) (fun j hj => by
        rcases List.mem_cons.1 (hperm.mem_iff.1 (hall j (by omega))) with rfl | h
        · omega
        · exact h) i hi'
      omega

theorem w1_pure {o : Oper} {K : Act → World → Prop} {a : Act} {w : World} (hw : Region.wanted o (yielded ops a.tmps) = true) {v : Value} (h1 : ∀ w', (execOp a.eval o).run P w' = .ok (.value v) w') (h2 : K (a.put o.dst v) w) : w1 P ops Q 1 o K a w := by
  unfold w1; rw [if_pos hw]; exact ⟨v, h1, h2⟩
theorem w1_still {o : Oper} {K : Act → World → Prop} {a : Act} {w : World} (hw : Region.wanted o (yielded ops a.tmps) = true) {v : Value} (h1 : ∀ w', Ext w w' → (execOp a.eval o).run P w' = .ok (.value v) w') (h2 : K (a.put o.dst v) w) : w1 P ops Q 2 o K a w := by
  unfold w1; rw [if_pos hw]; exact ⟨v, h1, h2⟩
theorem w1_no {f : Nat} {o : Oper} {K : Act → World → Prop} {a : Act} {w : World} (hw : Region.wanted o (yielded ops a.tmps) = false) (h2 : K (a.put o.dst undef) w) : w1 P ops Q f o K a w := by
  unfold w1; rw [if_neg (by rw [hw]; simp)]; exact h2

/-! ### the judgments -/
/-- all orders that the edges and the pairs X let -/
def TD (P : Program) (n : Nat) (l : List Oper) (Q : Exit → Act → World → Prop) (X : List (Nat × Nat)) (E : Env) (C : World → Prop) : Prop :=
  ∀ s, Lin l.toArray X s → ∀ a w, EOk n E a → C w → wpOps P l.toArray (NP Q) s a w
/-- the walk in one order -/
def TF (P : Program) (n : Nat) (ops : Array Oper) (Q : Exit → Act → World → Prop) (l : List (Nat × Oper)) (E : Env) (C : World → Prop) : Prop :=
  ∀ a w, EOk n E a → C w → wpF P ops (NP Q) l a w

theorem TD.leaf {n : Nat} {l : List Oper} {X : List (Nat × Nat)} {E : Env} {C : World → Prop} (ord : List (Nat × Nat)) (hc : ordB l X ord = true) (hn : nodupB (ord.map (·.1)) = true) (h : TF P n l.toArray Q (pickF l ord) E C) : TD P n l Q X E C := by
  intro s hs a w he hw
  simp only [ordB, Bool.and_eq_true] at hc
  obtain ⟨h1, h2, h3⟩ := hc
  have hnd := nodupB_spec hn
  have hall : ∀ i, i < l.length → i ∈ ord.map (·.1) := by
    intro i hi
    have := List.all_eq_true.1 h3 i (List.mem_range.2 hi)
    obtain ⟨x, hx, hb⟩ := List.any_eq_true.1 this
    exact List.mem_map.2 ⟨x, hx, Nat.eq_of_beq_eq_true hb⟩
  have hlen : (ord.map (·.1)).length = l.length := by rw [List.length_map]; exact Nat.eq_of_beq_eq_true h2
  refine wpOps_of_wpF s ord hs.nd hnd (fun i => ?_) (fun i hi => by simpa using (hs.mem i).1 hi) (PairsOk.of hs h1) a w (h a w he hw)
  rw [hs.mem i]
  constructor
  · intro hi; exact hall i (by simpa using hi)
  · intro hi
    have := pigeon hnd hlen hall i hi
    simpa using this
theorem TD.part {n : Nat} {l : List Oper} {X : List (Nat × Nat)} {E : Env} {C : World → Prop} (x y : Nat) (hne : Nat.beq x y = false) (hx : Nat.blt x l.length = true) (hy : Nat.blt y l.length = true)
    (h1 : TD P n l Q ((y, x) :: X) E C) (h2 : TD P n l Q ((x, y) :: X) E C) : TD P n l Q X E C := by
  intro s hs a w he hw
  have hxy : x ≠ y := fun e => by rw [e, Nat.beq_refl] at hne; cases hne
  have hx' : x < l.length := by simpa [Nat.blt_eq] using hx
  have hy' : y < l.length := by simpa [Nat.blt_eq] using hy
  rcases Bef.total hxy ((hs.mem x).2 (by simpa using hx')) ((hs.mem y).2 (by simpa using hy')) with hb | hb
  · exact h1 s ⟨hs.nd, hs.mem, hs.edge, fun p hp => (List.mem_cons.1 hp).elim (fun e => e ▸ hb) (hs.ext p)⟩ a w he hw
  · exact h2 s ⟨hs.nd, hs.mem, hs.edge, fun p hp => (List.mem_cons.1 hp).elim (fun e => e ▸ hb) (hs.ext p)⟩ a w he hw
end

section
variable {P : Program} {n : Nat} {ops : Array Oper} {Q : Exit → Act → World → Prop} {E E' : Env} {C C' : World → Prop} {rest : List (Nat × Oper)} {dst : Option Nat} {op : Op} {ty : TypeId} {pos : String} {aft : Array Edge} {M : List Nat} {w0 : World} {H0 H : Hp} {L : Blks} {g : Option (Nat × Bool)}

theorem TC.drawn {id : Nat} {l : List Oper} (hm : P.follows .mixedOrders = true) (hv : lexV l = true) (h : TD P n l Q [] E (St M w0 H0 H L)) : TC P n (.region id l.toArray true) Q E (St M w0 H0 H L) := by
  intro a w he hw
  refine Code.wp_mono NP.imp (wp_region_draw fun t => ?_)
  simp only [Region.schedule, hm, Bool.true_or, if_true]
  exact h _ (lin_linearise hv t) _ _ he hw.drew

theorem TF.nil (h : TX n (Q .normal) E C) : TF P n ops Q [] E C := fun a w he hw => h a w he hw
/-- an operation that only computes -/
theorem TF.pure {v : Value} (hr : PR P E (fun _ => True) op v) (hd : fits dst n = true) (h : TF P n ops Q rest (putE dst v E) C) : TF P n ops Q ((1, { dst := dst, op := op, type := ty, pos := pos, after := aft, guard := none }) :: rest) E C := by
  intro a w he hw
  exact w1_pure (by simp [Region.wanted]) (fun w' => hr n a w' _ rfl he trivial) (h _ w (he.put hd) hw)
/-- .. that leaves the world alone -/
theorem TF.still {v : Value} (hr : PR P E (St M w0 H0 H L) op v) (hd : fits dst n = true) (h : TF P n ops Q rest (putE dst v E) (St M w0 H0 H L)) : TF P n ops Q ((2, { dst := dst, op := op, type := ty, pos := pos, after := aft, guard := none }) :: rest) E (St M w0 H0 H L) := by
  intro a w he hw
  exact w1_still (by simp [Region.wanted]) (fun w' hx => hr n a w' _ rfl he (hx.st hw)) (h _ w (he.put hd) hw)
theorem TF.pureY {v : Value} {j s : Nat} {b : Bool} (hj : dstOf ops j = some s) (hb : lk E s = some (.bool b)) (hr : PR P E (fun _ => True) op v) (hd : fits dst n = true) (h : TF P n ops Q rest (putE dst v E) C) : TF P n ops Q ((1, { dst := dst, op := op, type := ty, pos := pos, after := aft, guard := some (j, b) }) :: rest) E C := by
  intro a w he hw
  exact w1_pure (by simp [Region.wanted, yielded_of he hj hb]) (fun w' => hr n a w' _ rfl he trivial) (h _ w (he.put hd) hw)
theorem TF.stillY {v : Value} {j s : Nat} {b : Bool} (hj : dstOf ops j = some s) (hb : lk E s = some (.bool b)) (hr : PR P E (St M w0 H0 H L) op v) (hd : fits dst n = true) (h : TF P n ops Q rest (putE dst v E) (St M w0 H0 H L)) : TF P n ops Q ((2, { dst := dst, op := op, type := ty, pos := pos, after := aft, guard := some (j, b) }) :: rest) E (St M w0 H0 H L) := by
  intro a w he hw
  exact w1_still (by simp [Region.wanted, yielded_of he hj hb]) (fun w' hx => hr n a w' _ rfl he (hx.st hw)) (h _ w (he.put hd) hw)
theorem TF.gdN {j s f : Nat} {b b' : Bool} (hj : dstOf ops j = some s) (hb : lk E s = some (.bool b)) (hne : (b == b') = false) (hd : fits dst n = true) (h : TF P n ops Q rest (putE dst undef E) C) :
    TF P n ops Q ((f, { dst := dst, op := op, type := ty, pos := pos, after := aft, guard := some (j, b') }) :: rest) E C := by
  intro a w he hw
  have hw' : (some b == some b') = false := by simpa using hne
  exact w1_no (by simp only [Region.wanted, yielded_of he hj hb, hw']) (h _ w (he.put hd) hw)
theorem TF.gdU {j s f : Nat} {b' : Bool} (hj : dstOf ops j = some s) (hb : lk E s = some undef) (hd : fits dst n = true) (h : TF P n ops Q rest (putE dst undef E) C) :
    TF P n ops Q ((f, { dst := dst, op := op, type := ty, pos := pos, after := aft, guard := some (j, b') }) :: rest) E C := by
  intro a w he hw
  have hy : yielded ops a.tmps j = none := by
    unfold yielded; unfold dstOf at hj
    cases ho : ops[j]? with
    | none => rw [ho] at hj; cases hj
    | some o => rw [ho] at hj; simp only at hj; simp [hj, he.at_ s _ hb, undef]
  exact w1_no (by simp only [Region.wanted, hy]; rfl) (h _ w (he.put hd) hw)
theorem TF.split {l : List (Nat × Oper)} {s : Nat} {b : Bool} (hb : lk E s = some (.bool b)) (ht : b = true → TF P n ops Q l ((s, .bool true) :: E) C) (hf : b = false → TF P n ops Q l ((s, .bool false) :: E) C) : TF P n ops Q l E C := by
  intro a w he hw
  have key : ∀ b', b = b' → EOk n ((s, .bool b') :: E) a := by
    rintro b' rfl
    refine ⟨he.sz, he.df, fun t v h => ?_⟩
    simp only [lk] at h
    split at h
    · rename_i hq
      have := Nat.eq_of_beq_eq_true hq
      subst this
      simp only [Option.some.injEq] at h
      subst h
      exact he.at_ _ _ hb
    · exact he.at_ _ _ h
  cases b
  · exact hf rfl a w (key _ rfl) hw
  · exact ht rfl a w (key _ rfl) hw

/-- what follows an operation that writes -/
def After (P : Program) (ops : Array Oper) (Q : Exit → Act → World → Prop) (rest : List (Nat × Oper)) : Exit → Act → World → Prop
  | .normal, a, w => wpF P ops (NP Q) rest a w
  | _, _, _ => False
/-- an operation that writes: walked by itself -/
theorem TF.loud {o : Oper} (h : TL P n ops (After P ops Q rest) [o] E C) : TF P n ops Q ((0, o) :: rest) E C := by
  intro a w he hw
  have h1 := h a w he hw
  show w1 P ops (NP Q) 0 o (wpF P ops (NP Q) rest) a w
  have h2 : w1 P ops (After P ops Q rest) 0 o (fun a w => wpF P ops (NP Q) rest a w) a w := by
    unfold w1
    simp only [wpW] at h1
    by_cases hw' : Region.wanted o (yielded ops a.tmps) = true
    · rw [if_pos hw'] at h1 ⊢
      exact Oper.wp_mono (fun a w hq => ⟨fun e => absurd e (by decide), hq⟩) h1
    · rw [if_neg hw'] at h1 ⊢
      exact h1
  unfold w1 at h2 ⊢
  split
  · rename_i hw'
    rw [if_pos hw'] at h2
    unfold Oper.wp at h2 ⊢
    generalize (execOp a.eval o).run P w = r at *
    cases r with
    | ok nx w' =>
      cases nx <;> simp only [Oper.upon] at h2 ⊢ <;> try exact h2
      case enter f args =>
        refine Calls.mono h2 fun e w'' he => ?_
        cases e with
        | returned u => exact he
        | panicked c => exact he.elim
        | outgrown => obtain ⟨_, _, he⟩ := he; exact he.elim
    | halt x w' => cases x <;> simp only [Oper.upon] at h2 ⊢ <;> exact h2
  · rename_i hw'
    rw [if_neg hw'] at h2; exact h2
theorem TF.back (h : TF P n ops Q rest E C) : TL P n ops (After P ops Q rest) [] E C := fun a w he hw => h a w he hw
theorem TF.cls {l : List (Nat × Oper)} (hc : ∀ w, C w → C' w) (h : TF P n ops Q l E C') : TF P n ops Q l E C := fun a w he hw => h a w he (hc w hw)
theorem TF.front {l : List (Nat × Oper)} {x : Nat × List Value} {R : Blks} (h : Mv x L R) (k : TF P n ops Q l E (St M w0 H0 H (x :: R))) : TF P n ops Q l E (St M w0 H0 H L) :=
  TF.cls (fun w hw => hw.perm h.perm) k
theorem TF.pub {l : List (Nat × Oper)} {b : Nat} {cs : List Value} {R : Blks} (hb : b ∉ M) (k : ∀ H', H.le H' → (∀ o v, cs[o]? = some v → H' b o = some v) → TF P n ops Q l E (St M w0 H0 H' R)) : TF P n ops Q l E (St M w0 H0 H ((b, cs) :: R)) := by
  intro a w he hw
  exact k _ hw.le_add (fun o v hv => by simp [Hp.add, hv]) a w he (hw.publish hb)

/-! ### operations that only lay blocks -/
theorem w1_ext {o : Oper} {K : Act → World → Prop} {a : Act} {w : World} (h : Region.wanted o (yielded ops a.tmps) = true → o.wp P a w (fun a' w' => Ext w w' ∧ K a' w') Q) (hn : Region.wanted o (yielded ops a.tmps) = false → K (a.put o.dst undef) w) : w1 P ops Q 3 o K a w := by
  unfold w1
  split
  · rename_i hw; exact Oper.wp_mono (fun a' w' hq => ⟨fun _ => hq.1, hq.2⟩) (h hw)
  · rename_i hw; exact hn (by simpa using hw)
theorem TF.gd {f j s : Nat} {b : Bool} (hj : dstOf ops j = some s) (hb : lk E s = some (.bool b)) (h : TF P n ops Q ((f, { dst := dst, op := op, type := ty, pos := pos, after := aft, guard := none }) :: rest) E C) :
    TF P n ops Q ((f, { dst := dst, op := op, type := ty, pos := pos, after := aft, guard := some (j, b) }) :: rest) E C := by
  intro a w he hw
  have h1 := h a w he hw
  have hy := yielded_of he hj hb
  simp only [wpF, w1] at h1 ⊢
  simp only [Region.wanted, hy, BEq.rfl, if_true] at h1 ⊢
  exact h1
theorem TF.ext {o : Oper} (hg : o.guard = none) (h : ∀ a w, EOk n E a → C w → o.wp P a w (fun a' w' => Ext w w' ∧ wpF P ops (NP Q) rest a' w') (NP Q)) : TF P n ops Q ((3, o) :: rest) E C := by
  intro a w he hw
  exact w1_ext (fun _ => h a w he hw) (fun h => by simp [Region.wanted, hg] at h)
theorem TF.call {f : FuncId} {args : List Value} {Φ : Value → Hp → Prop} (hE : Enters P E op f args) (hF : Fn P f args H Φ) (hd : fits dst n = true)
    (h : ∀ v H', H.le H' → Φ v H' → TF P n ops Q rest (putE dst v E) (St M w0 H0 H' L)) :
    TF P n ops Q ((3, { dst := dst, op := op, type := ty, pos := pos, after := aft, guard := none }) :: rest) E (St M w0 H0 H L) := by
  refine TF.ext rfl fun a w he hw => ?_
  unfold Oper.wp
  rw [hE n a w _ rfl he]
  refine (hF w (St.pass1 (L1 := []) (L2 := L) hw)).mono ?_
  rintro e w' ⟨v, H', L1', rfl, hst, hk, hΦ⟩
  have : L1' = [] := by cases L1' with | nil => rfl | cons x l => cases hk
  subst this
  exact ⟨Ext.of hst, h v H' hst.fr.1 hΦ _ _ (he.put hd) (hw.past hst)⟩
theorem TF.callY {f j s : Nat} {b : Bool} {args : List Value} {Φ : Value → Hp → Prop} (hj : dstOf ops j = some s) (hb : lk E s = some (.bool b)) (hE : Enters P E op f args) (hF : Fn P f args H Φ) (hd : fits dst n = true)
    (h : ∀ v H', H.le H' → Φ v H' → TF P n ops Q rest (putE dst v E) (St M w0 H0 H' L)) :
    TF P n ops Q ((3, { dst := dst, op := op, type := ty, pos := pos, after := aft, guard := some (j, b) }) :: rest) E (St M w0 H0 H L) := TF.gd hj hb (TF.call hE hF hd h)
theorem TF.callS {f : FuncId} {args : List Value} {v : Value} (hE : Enters P E op f args) (hF : FnS P f args H v) (hd : fits dst n = true)
    (h : TF P n ops Q rest (putE dst v E) (St M w0 H0 H L)) :
    TF P n ops Q ((3, { dst := dst, op := op, type := ty, pos := pos, after := aft, guard := none }) :: rest) E (St M w0 H0 H L) :=
  TF.call hE hF hd fun v' H' _ hΦ => by obtain ⟨rfl, rfl⟩ := hΦ; exact h
theorem TF.callSY {f j s : Nat} {b : Bool} {args : List Value} {v : Value} (hj : dstOf ops j = some s) (hb : lk E s = some (.bool b)) (hE : Enters P E op f args) (hF : FnS P f args H v) (hd : fits dst n = true)
    (h : TF P n ops Q rest (putE dst v E) (St M w0 H0 H L)) :
    TF P n ops Q ((3, { dst := dst, op := op, type := ty, pos := pos, after := aft, guard := some (j, b) }) :: rest) E (St M w0 H0 H L) := TF.gd hj hb (TF.callS hE hF hd h)
/-- a block is laid -/
theorem TF.lay {o : Oper} {C' : Nat → World → Prop} (hg : o.guard = none) (hd : fits o.dst n = true) (hr : ∀ a w, EOk n E a → C w → ∃ v w', (execOp a.eval o).run P w = .ok (.value v) w' ∧ Ext w w' ∧ TF P n ops Q rest (putE o.dst v E) (fun u => u = w')) : TF P n ops Q ((3, o) :: rest) E C := by
  refine TF.ext hg fun a w he hw => ?_
  obtain ⟨v, w', h1, h2, h3⟩ := hr a w he hw
  unfold Oper.wp
  rw [h1]
  exact ⟨h2, h3 _ _ (he.put hd) rfl⟩
theorem TF.alloc {t : TypeId} {cs : List Value} [hz : Zero P t cs] (hd : fits dst n = true) (h : ∀ b, TF P n ops Q rest (putE dst (.pointer (some ⟨b, 0, none⟩)) E) (St M w0 H0 H ((b, cs) :: L))) :
    TF P n ops Q ((3, { dst := dst, op := .alloc t, type := ty, pos := pos, after := aft, guard := none }) :: rest) E (St M w0 H0 H L) := by
  refine TF.ext rfl fun a w he hw => ?_
  obtain ⟨i, z, hi, hzz, hcs⟩ := zero_info hz
  have hrun : (execOp a.eval { dst := dst, op := .alloc t, type := ty, pos := pos, after := aft, guard := none }).run P w = .ok (.value (.pointer (some ⟨w.heap.size, 0, none⟩))) (w.alloc (.cells z.cells t)) := by
    simp [execOp, Instr.alloc, zeroValue, typeInfo, hi, hzz, newVar, newRow]
  unfold Oper.wp
  rw [hrun]
  refine ⟨Ext.alloc _ _, h _ _ _ (he.put hd) ?_⟩
  have := hw.alloc z.cells.toList t
  rw [hcs] at this
  rw [← hcs] at this ⊢
  simpa using this
theorem TF.box {t : TypeId} {x : Operand} {v : Value} (hx : ev E x = some v) (hd : fits dst n = true) (h : ∀ b, TF P n ops Q rest (putE dst (.pointer (some ⟨b, 0, none⟩)) E) (St M w0 H0 H ((b, v.cells.toList) :: L))) :
    TF P n ops Q ((3, { dst := dst, op := .box t x, type := ty, pos := pos, after := aft, guard := none }) :: rest) E (St M w0 H0 H L) := by
  refine TF.ext rfl fun a w he hw => ?_
  have hrun : (execOp a.eval { dst := dst, op := .box t x, type := ty, pos := pos, after := aft, guard := none }).run P w = .ok (.value (.pointer (some ⟨w.heap.size, 0, none⟩))) (w.alloc (.cells v.cells t)) := by
    simp [execOp, Instr.box, he.eval hx, newVar, newRow]
  unfold Oper.wp
  rw [hrun]
  exact ⟨Ext.alloc _ _, h _ _ _ (he.put hd) (by simpa using hw.alloc v.cells.toList t)⟩
theorem TF.box1 {t : TypeId} {x : Operand} {v : Value} (hx : ev E x = some v) [h1 : One v] (hd : fits dst n = true) (h : ∀ b, TF P n ops Q rest (putE dst (.pointer (some ⟨b, 0, none⟩)) E) (St M w0 H0 H ((b, [v]) :: L))) :
    TF P n ops Q ((3, { dst := dst, op := .box t x, type := ty, pos := pos, after := aft, guard := none }) :: rest) E (St M w0 H0 H L) :=
  TF.box hx hd fun b => by rw [h1.cells]; exact h b
end
end Go.Sx

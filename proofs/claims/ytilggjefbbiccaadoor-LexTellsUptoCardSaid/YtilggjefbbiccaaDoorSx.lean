import Derived.WalkKit
import Derived.KernelRfl
import Derived.Deep.Quiet
namespace Go.Sx
open Go

/-! ## environments -/
abbrev Env := List (Nat × Value)

def lk : Env → Nat → Option Value
  | [], _ => none
  | (s, v) :: E, t => match Nat.beq s t with
    | true => some v
    | false => lk E t

structure EOk (n : Nat) (E : Env) (a : Act) : Prop where
  sz : a.tmps.size = n
  df : a.defers = []
  at_ : ∀ t v, lk E t = some v → a.tmps[t]? = some v

def ev (E : Env) : Operand → Option Value
  | .tmp t => lk E t
  | .const v => some v
  | .global g => some (.pointer (some ⟨g, 0, none⟩))
  | .func f => some (.func (.func f) #[] #[])

theorem EOk.eval {n : Nat} {E : Env} {a : Act} (h : EOk n E a) {x : Operand} {v : Value} (hx : ev E x = some v) : a.eval x = v := by
  cases x with
  | tmp t => simp only [ev] at hx; simp [Act.eval, h.at_ t v hx]
  | const u => simpa [ev, Act.eval] using hx
  | global g => simpa [ev, Act.eval] using hx
  | func f => simpa [ev, Act.eval] using hx

def evs (E : Env) : List Operand → Option (List Value)
  | [] => some []
  | x :: xs => match ev E x with
    | some v => match evs E xs with
      | some vs => some (v :: vs)
      | none => none
    | none => none

theorem EOk.evals {n : Nat} {E : Env} {a : Act} (h : EOk n E a) : ∀ {xs : List Operand} {vs : List Value}, evs E xs = some vs → xs.map a.eval = vs
  | [], vs, hx => by simp only [evs, Option.some.injEq] at hx; simp [← hx]
  | x :: xs, vs, hx => by
    simp only [evs] at hx
    split at hx
    · rename_i v hv
      split at hx
      · rename_i us hus
        simp only [Option.some.injEq] at hx
        subst hx
        simp [h.eval hv, h.evals hus]
      · cases hx
    · cases hx

def putE (d : Option Nat) (v : Value) (E : Env) : Env := match d with
  | some d => (d, v) :: E
  | none => E

def fits (d : Option Nat) (n : Nat) : Bool := match d with
  | some d => Nat.blt d n
  | none => true

theorem EOk.put {n : Nat} {E : Env} {a : Act} (h : EOk n E a) {d : Option Nat} {v : Value} (hd : fits d n = true) : EOk n (putE d v E) (a.put d v) := by
  cases d with
  | none => exact h
  | some d =>
    have hd' : d < n := by simpa [fits, Nat.blt_eq] using hd
    refine ⟨by simp [Act.put, h.sz], by simp [Act.put, h.df], fun t u ht => ?_⟩
    simp only [putE, lk] at ht
    by_cases hdt : d = t
    · subst hdt
      simp only [show Nat.beq d d = true from Nat.beq_refl d, Option.some.injEq] at ht
      subst ht
      simp [Act.put, h.sz, hd']
    · have : Nat.beq d t = false := by
        cases hb : Nat.beq d t
        · rfl
        · exact absurd (Nat.eq_of_beq_eq_true hb) hdt
      simp only [this] at ht
      simp [Act.put, hdt, h.at_ t u ht]

/-- E' asks no more than E gives -/
def Sub (E' E : Env) : Prop := match E' with
  | [] => True
  | (s, v) :: R => lk E s = some v ∧ Sub R E

theorem Sub.lk {E : Env} : ∀ {E' : Env}, Sub E' E → ∀ t v, lk E' t = some v → Sx.lk E t = some v
  | [], _, _, _, h => by simp [Sx.lk] at h
  | (s, u) :: R, h, t, v, ht => by
    simp only [Sx.lk] at ht
    split at ht
    · rename_i hb
      have := Nat.eq_of_beq_eq_true hb
      subst this
      simp only [Option.some.injEq] at ht
      subst ht
      exact h.1
    · exact Sub.lk h.2 t v ht

theorem EOk.sub {n : Nat} {E E' : Env} {a : Act} (h : EOk n E a) (hs : Sub E' E) : EOk n E' a := ⟨h.sz, h.df, fun t v ht => h.at_ t v (hs.lk t v ht)⟩

/-- what the slots named hold -/
def keep (ss : List Nat) (E : Env) : Env := match ss with
  | [] => []
  | s :: ss => match lk E s with
    | some v => (s, v) :: keep ss E
    | none => keep ss E

theorem keep_sub (E : Env) : ∀ ss, Sub (keep ss E) E
  | [] => trivial
  | s :: ss => by
    simp only [keep]
    split
    · rename_i v hv; exact ⟨hv, keep_sub E ss⟩
    · exact keep_sub E ss

/-! ## memory -/
/-- what may be read: block, offset -/
abbrev Hp := Nat → Nat → Option Value

def Hp.le (H H' : Hp) : Prop := ∀ b o v, H b o = some v → H' b o = some v
theorem Hp.le.refl (H : Hp) : H.le H := fun _ _ _ h => h
theorem Hp.le.trans {A B C : Hp} (h : A.le B) (k : B.le C) : A.le C := fun b o v x => k b o v (h b o v x)

/-- H with the cells of block b -/
def Hp.add (H : Hp) (b : Nat) (cs : List Value) : Hp := fun b' o => if b' = b then cs[o]? else H b' o

abbrev Blks := List (Nat × List Value)

/-- new readings only in new blocks -/
def Fresh (w : World) (H H' : Hp) : Prop := H.le H' ∧ ∀ b o v, H' b o = some v → H b o = none → w.heap.size ≤ b

structure St (M : List Nat) (w0 : World) (H0 H : Hp) (L : Blks) (w : World) : Prop where
  os : w.os = w0.os
  tape : w.tape = w0.tape
  output : w.output = w0.output
  size : w0.heap.size ≤ w.heap.size
  old : ∀ b, b < w0.heap.size → b ∉ M → w.heap[b]? = w0.heap[b]?
  hp : ∀ b o v, H b o = some v → w.cell? ⟨b, o, none⟩ = some v
  own : ∀ p ∈ L, ∃ t, w.heap[p.1]? = some (.cells p.2.toArray t (0, 0))
  sep : ∀ p ∈ L, ∀ o, H p.1 o = none
  nd : (L.map (·.1)).Nodup
  mine : ∀ p ∈ L, p.1 ∈ M ∨ w0.heap.size ≤ p.1
  fr : Fresh w0 H0 H

theorem Fresh.trans {w w' : World} {A B D : Hp} (h : Fresh w A B) (k : Fresh w' B D) (hs : w.heap.size ≤ w'.heap.size) : Fresh w A D :=
  ⟨h.1.trans k.1, fun b o v hd ha => by
    cases hb : B b o with
    | none => have := k.2 b o v hd hb; omega
    | some u => exact h.2 b o u hb ha⟩

theorem Fresh.refl (w : World) (H : Hp) : Fresh w H H := ⟨Hp.le.refl H, fun b o v h h' => by rw [h] at h'; cases h'⟩

theorem lt_of_cells {w : World} {b : Nat} {o : Obj} (h : w.heap[b]? = some o) : b < w.heap.size := by
  rcases Nat.lt_or_ge b w.heap.size with hb | hb
  · exact hb
  · rw [Array.getElem?_eq_none hb] at h; cases h

theorem lt_of_cell {w : World} {b o : Nat} {v : Value} (h : w.cell? ⟨b, o, none⟩ = some v) : b < w.heap.size := World.block_lt_of_cell? (a := ⟨b, o, none⟩) _ h

theorem cell_of_heap {w w' : World} {b o : Nat} (h : w'.heap[b]? = w.heap[b]?) : w'.cell? ⟨b, o, none⟩ = w.cell? ⟨b, o, none⟩ := World.cell?_of_block (w := w) h

theorem St.start {w0 : World} {H : Hp} (h : ∀ b o v, H b o = some v → w0.cell? ⟨b, o, none⟩ = some v) : St [] w0 H H [] w0 :=
  ⟨rfl, rfl, rfl, Nat.le_refl _, fun _ _ _ => rfl, h, by simp, by simp, by simp, by simp, Fresh.refl _ _⟩

section
variable {M : List Nat} {w0 w w' : World} {H0 H H' : Hp} {L : Blks}

theorem St.drew (h : St M w0 H0 H L w) : St M w0 H0 H L { w with drawn := w.drawn + 1 } :=
  ⟨h.os, h.tape, h.output, h.size, h.old, h.hp, h.own, h.sep, h.nd, h.mine, h.fr⟩

theorem St.lt (h : St M w0 H0 H L w) {p : Nat × List Value} (hp : p ∈ L) : p.1 < w.heap.size := by
  obtain ⟨t, ht⟩ := h.own p hp
  exact lt_of_cells ht

theorem St.alloc (h : St M w0 H0 H L w) (cs : List Value) (t : TypeId) : St M w0 H0 H ((w.heap.size, cs) :: L) (w.alloc (.cells cs.toArray t (0, 0))) := by
  have hh : ∀ b, b < w.heap.size → (w.alloc (.cells cs.toArray t (0, 0))).heap[b]? = w.heap[b]? := fun b hb => RowKit.Below.heap_alloc w _ b hb
  refine ⟨h.os, h.tape, h.output, by have := h.size; simp; omega, fun b hb hM => (hh b (by have := h.size; omega)).trans (h.old b hb hM), fun b o v hv => ?_, ?_, ?_, ?_, ?_, h.fr⟩
  · have hv' := h.hp b o v hv
    rw [cell_of_heap (hh b (lt_of_cell hv'))]; exact hv'
  · intro p hp
    rcases List.mem_cons.1 hp with rfl | hp
    · exact ⟨t, heap_alloc_new w _⟩
    · obtain ⟨u, hu⟩ := h.own p hp
      exact ⟨u, (hh _ (lt_of_cells hu)).trans hu⟩
  · intro p hp o
    rcases List.mem_cons.1 hp with rfl | hp
    · cases ho : H w.heap.size o with
      | none => rfl
      | some v => exact absurd (lt_of_cell (h.hp _ _ _ ho)) (Nat.lt_irrefl _)
    · exact h.sep p hp o
  · simp only [List.map_cons, List.nodup_cons]
    refine ⟨fun hm => ?_, h.nd⟩
    obtain ⟨p, hp, he⟩ := List.mem_map.1 hm
    have := h.lt hp
    omega
  · intro p hp
    rcases List.mem_cons.1 hp with rfl | hp
    · exact .inr h.size
    · exact h.mine p hp

/-- the cells of block b stand at the place in L -/
inductive InL (b : Nat) (cs : List Value) : Blks → Prop
  | here (L : Blks) : InL b cs ((b, cs) :: L)
  | there {L : Blks} (x : Nat × List Value) (h : InL b cs L) : InL b cs (x :: L)

theorem InL.mem {b : Nat} {cs : List Value} {L : Blks} (h : InL b cs L) : (b, cs) ∈ L := by
  induction h with
  | here L => simp
  | there x _ ih => exact List.mem_cons_of_mem _ ih

/-- the cells of block b turn from cs to cs' -/
inductive Upd (b : Nat) (cs cs' : List Value) : Blks → Blks → Prop
  | here (L : Blks) : Upd b cs cs' ((b, cs) :: L) ((b, cs') :: L)
  | there {L L' : Blks} (x : Nat × List Value) (h : Upd b cs cs' L L') : Upd b cs cs' (x :: L) (x :: L')

theorem Upd.keys {b : Nat} {cs cs' : List Value} {L L' : Blks} (h : Upd b cs cs' L L') : L'.map (·.1) = L.map (·.1) := by
  induction h with
  | here L => rfl
  | there x _ ih => simp [ih]

theorem Upd.inl {b : Nat} {cs cs' : List Value} {L L' : Blks} (h : Upd b cs cs' L L') : InL b cs L := by
  induction h with
  | here L => exact .here _
  | there x _ ih => exact .there _ ih

theorem Upd.mem {b : Nat} {cs cs' : List Value} {L L' : Blks} (h : Upd b cs cs' L L') (hn : (L.map (·.1)).Nodup) : ∀ p ∈ L', p = (b, cs') ∨ (p ∈ L ∧ p.1 ≠ b) := by
  induction h with
  | here L =>
    intro p hp
    rcases List.mem_cons.1 hp with rfl | hp
    · exact .inl rfl
    · refine .inr ⟨List.mem_cons_of_mem _ hp, fun e => ?_⟩
      simp only [List.map_cons, List.nodup_cons] at hn
      exact hn.1 (List.mem_map.2 ⟨p, hp, e⟩)
  | there x h ih =>
    intro p hp
    simp only [List.map_cons, List.nodup_cons] at hn
    rcases List.mem_cons.1 hp with rfl | hp
    · refine .inr ⟨by simp, fun e => ?_⟩
      exact hn.1 (List.mem_map.2 ⟨(b, cs), h.inl.mem, e.symm⟩)
    · rcases ih hn.2 p hp with h1 | h1
      · exact .inl h1
      · exact .inr ⟨List.mem_cons_of_mem _ h1.1, h1.2⟩

theorem St.cell (h : St M w0 H0 H L w) {b : Nat} {cs : List Value} (hb : InL b cs L) (o : Nat) : w.cell? ⟨b, o, none⟩ = cs[o]? := by
  obtain ⟨t, ht⟩ := h.own _ hb.mem
  simp [World.cell?, ht]

theorem St.set (h : St M w0 H0 H L w) {b : Nat} {cs cs' : List Value} {L' : Blks} (hu : Upd b cs cs' L L') (w1 : World) (hsz : w1.heap.size = w.heap.size)
    (h1 : w1.os = w.os) (h2 : w1.tape = w.tape) (h3 : w1.output = w.output)
    (hb : ∀ t, w.heap[b]? = some (.cells cs.toArray t (0, 0)) → w1.heap[b]? = some (.cells cs'.toArray t (0, 0))) (ho : ∀ k, k ≠ b → w1.heap[k]? = w.heap[k]?) : St M w0 H0 H L' w1 := by
  have hin := hu.inl.mem
  refine ⟨h1.trans h.os, h2.trans h.tape, h3.trans h.output, by rw [hsz]; exact h.size, fun k hk hM => ?_, fun k o v hv => ?_, ?_, ?_, ?_, ?_, h.fr⟩
  · have hkb : k ≠ b := by
      rintro rfl
      rcases h.mine _ hin with hm | hm
      · exact hM hm
      · simp at hm; omega
    exact (ho k hkb).trans (h.old k hk hM)
  · have hkb : k ≠ b := by
      rintro rfl
      rw [h.sep _ hin o] at hv
      cases hv
    rw [cell_of_heap (ho k hkb)]
    exact h.hp k o v hv
  · intro p hp
    rcases hu.mem h.nd p hp with rfl | ⟨hp, hne⟩
    · obtain ⟨t, ht⟩ := h.own _ hin
      exact ⟨t, hb t ht⟩
    · obtain ⟨t, ht⟩ := h.own p hp
      exact ⟨t, (ho _ hne).trans ht⟩
  · intro p hp o
    rcases hu.mem h.nd p hp with rfl | ⟨hp, hne⟩
    · exact h.sep _ hin o
    · exact h.sep p hp o
  · rw [hu.keys]; exact h.nd
  · intro p hp
    rcases hu.mem h.nd p hp with rfl | ⟨hp, hne⟩
    · exact h.mine (b, cs) hin
    · exact h.mine p hp

/-- behind a callee that left all that was there -/
theorem St.past (h : St M w0 H0 H L w) (h' : St [] w H H' [] w') : St M w0 H0 H' L w' := by
  refine ⟨h'.os.trans h.os, h'.tape.trans h.tape, h'.output.trans h.output, Nat.le_trans h.size h'.size, fun b hb hM => ?_, h'.hp, fun p hp => ?_, fun p hp o => ?_, h.nd, h.mine, h.fr.trans h'.fr h.size⟩
  · exact (h'.old b (by have := h.size; omega) (by simp)).trans (h.old b hb hM)
  · obtain ⟨t, ht⟩ := h.own p hp
    exact ⟨t, (h'.old _ (lt_of_cells ht) (by simp)).trans ht⟩
  · cases ho : H' p.1 o with
    | none => rfl
    | some v =>
      have := h'.fr.2 _ _ _ ho (h.sep p hp o)
      have := h.lt hp
      omega

theorem St.le_add {b : Nat} {cs : List Value} (h : St M w0 H0 H ((b, cs) :: L) w) : H.le (H.add b cs) := fun k o v hv => by
  by_cases hk : k = b
  · subst hk
    have := h.sep (k, cs) (by simp) o
    simp only at this
    rw [this] at hv; cases hv
  · simp only [Hp.add, hk, if_false]; exact hv

/-- an own block is let go of: it may be read from now on, never written -/
theorem St.publish {b : Nat} {cs : List Value} (h : St M w0 H0 H ((b, cs) :: L) w) (hbM : b ∉ M) : St M w0 H0 (H.add b cs) L w := by
  have hnd := h.nd
  simp only [List.map_cons, List.nodup_cons] at hnd
  refine ⟨h.os, h.tape, h.output, h.size, h.old, fun k o v hv => ?_, fun p hp => h.own p (List.mem_cons_of_mem _ hp), fun p hp o => ?_, hnd.2, fun p hp => h.mine p (List.mem_cons_of_mem _ hp), h.fr.1.trans h.le_add, fun k o v hv hn => ?_⟩
  · by_cases hk : k = b
    · subst hk
      simp only [Hp.add, if_true] at hv
      rw [h.cell (.here L) o]; exact hv
    · simp only [Hp.add, hk, if_false] at hv
      exact h.hp k o v hv
  · have hne : p.1 ≠ b := fun e => hnd.1 (List.mem_map.2 ⟨p, hp, e⟩)
    simp only [Hp.add, hne, if_false]
    exact h.sep p (List.mem_cons_of_mem _ hp) o
  · by_cases hk : k = b
    · subst hk
      rcases h.mine (k, cs) (by simp) with hm | hm
      · exact absurd hm hbM
      · exact hm
    · simp only [Hp.add, hk, if_false] at hv
      exact h.fr.2 k o v hv hn

/-- an own block is forgotten -/
theorem St.drop {x : Nat × List Value} (h : St M w0 H0 H (x :: L) w) : St M w0 H0 H L w := by
  have hnd := h.nd
  simp only [List.map_cons, List.nodup_cons] at hnd
  exact ⟨h.os, h.tape, h.output, h.size, h.old, h.hp, fun p hp => h.own p (List.mem_cons_of_mem _ hp), fun p hp o => h.sep p (List.mem_cons_of_mem _ hp) o, hnd.2, fun p hp => h.mine p (List.mem_cons_of_mem _ hp), h.fr⟩

theorem St.perm {L' : Blks} (h : St M w0 H0 H L w) (hp : L.Perm L') : St M w0 H0 H L' w :=
  ⟨h.os, h.tape, h.output, h.size, h.old, h.hp, fun p hm => h.own p (hp.mem_iff.2 hm), fun p hm o => h.sep p (hp.mem_iff.2 hm) o, (hp.map _).nodup_iff.1 h.nd, fun p hm => h.mine p (hp.mem_iff.2 hm), h.fr⟩
end

end Go.Sx

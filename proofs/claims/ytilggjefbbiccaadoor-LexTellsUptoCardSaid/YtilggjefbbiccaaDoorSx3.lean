import Derived.Test.YtilggjefbbiccaaDoorSx2
set_option linter.unusedSimpArgs false
set_option linter.unusedVariables false
namespace Go.Sx
open Go

/-- a region's walk in the order of its text -/
def wpW (P : Program) (ops : Array Oper) (Q : Exit → Act → World → Prop) : List Oper → Act → World → Prop
  | [], a, w => Q .normal a w
  | o :: rest, a, w => if Region.wanted o (yielded ops a.tmps) then o.wp P a w (wpW P ops Q rest) Q else wpW P ops Q rest (a.put o.dst undef) w
theorem wpList_of_wpW {P : Program} {ops : Array Oper} {Q : Exit → Act → World → Prop} : ∀ {l : List Oper} {a : Act} {w : World}, wpW P ops Q l a w → wpList P ops Q l a w
  | [], a, w, h => h
  | o :: rest, a, w, h => by
    refine wpList_step fun K hK => ?_
    simp only [wpW] at h
    split
    · rename_i hw
      rw [if_pos hw] at h
      unfold Oper.wp at *
      generalize (execOp a.eval o).run P w = r at *
      cases r with
      | ok n w' =>
        cases n <;> simp only [Oper.upon] at h ⊢ <;> first
          | exact hK _ _ (wpList_of_wpW h)
          | exact Calls.mono h (fun e w'' he => by cases e <;> first | exact hK _ _ (wpList_of_wpW he) | exact he)
          | exact Rows.mono h (fun _ _ he => hK _ _ (wpList_of_wpW he))
      | halt x w' => cases x <;> simp only [Oper.upon] at h ⊢ <;> exact h
    · rename_i hw
      rw [if_neg hw] at h
      exact hK _ _ (wpList_of_wpW h)
theorem wpW_step {P : Program} {ops : Array Oper} {Q : Exit → Act → World → Prop} {o : Oper} {rest : List Oper} {a : Act} {w : World} (h : ∀ K : Act → World → Prop, (∀ a w, wpW P ops Q rest a w → K a w) → if Region.wanted o (yielded ops a.tmps) then o.wp P a w K Q else K (a.put o.dst undef) w) : wpW P ops Q (o :: rest) a w :=
  h _ (fun _ _ h => h)
theorem wpW_plain {P : Program} {ops : Array Oper} {Q : Exit → Act → World → Prop} {o : Oper} {rest : List Oper} {a : Act} {w : World} (hg : o.guard = none)
    (h : ∀ K : Act → World → Prop, (∀ a w, wpW P ops Q rest a w → K a w) → o.wp P a w K Q) : wpW P ops Q (o :: rest) a w :=
  wpW_step fun K hK => by simp only [Region.wanted, hg, if_true]; exact h K hK

/-! ## judgments -/
def TX (n : Nat) (q : Act → World → Prop) (E : Env) (C : World → Prop) : Prop := ∀ a w, EOk n E a → C w → q a w
def TC (P : Program) (n : Nat) (c : Code) (Q : Exit → Act → World → Prop) (E : Env) (C : World → Prop) : Prop := ∀ a w, EOk n E a → C w → c.wp P Q a w
def TL (P : Program) (n : Nat) (ops : Array Oper) (Q : Exit → Act → World → Prop) (l : List Oper) (E : Env) (C : World → Prop) : Prop := ∀ a w, EOk n E a → C w → wpW P ops Q l a w
/-- the quiet walk: a region that draws its order -/
def TQ (P : Program) (n : Nat) (ops : Array Oper) (C : World → Prop) (Q : Act → Prop) (l : List Oper) (E : Env) : Prop := ∀ a, EOk n E a → wpQuiet P ops C Q l a

section
variable {P : Program} {n : Nat} {ops : Array Oper} {Q : Exit → Act → World → Prop} {E E' : Env} {C C' : World → Prop} {rest : List Oper} {dst : Option Nat} {op : Op} {ty : TypeId} {pos : String} {aft : Array Edge}

theorem TX.sub {q : Act → World → Prop} (hs : Sub E' E) (hc : ∀ w, C w → C' w) (h : TX n q E' C') : TX n q E C := fun a w he hw => h a w (he.sub hs) (hc w hw)
theorem TC.sub {c : Code} (hs : Sub E' E) (hc : ∀ w, C w → C' w) (h : TC P n c Q E' C') : TC P n c Q E C := fun a w he hw => h a w (he.sub hs) (hc w hw)
theorem TL.sub {l : List Oper} (hs : Sub E' E) (hc : ∀ w, C w → C' w) (h : TL P n ops Q l E' C') : TL P n ops Q l E C := fun a w he hw => h a w (he.sub hs) (hc w hw)
theorem TC.env {c : Code} (hs : Sub E' E) (h : TC P n c Q E' C) : TC P n c Q E C := fun a w he hw => h a w (he.sub hs) hw
theorem TC.cls {c : Code} (hc : ∀ w, C w → C' w) (h : TC P n c Q E C') : TC P n c Q E C := fun a w he hw => h a w he (hc w hw)
theorem TL.cls {l : List Oper} (hc : ∀ w, C w → C' w) (h : TL P n ops Q l E C') : TL P n ops Q l E C := fun a w he hw => h a w he (hc w hw)

theorem TC.seq {x y : Code} (h : TC P n x (Exit.then (y.wp P Q) Q) E C) : TC P n (.seq x y) Q E C := fun a w he hw => wp_seq (h a w he hw)
theorem TC.skip (h : TX n (Q .normal) E C) : TC P n .skip Q E C := fun a w he hw => wp_skip (h a w he hw)
theorem TC.ret (h : TX n (Q .ret) E C) : TC P n .ret Q E C := fun a w he hw => wp_ret (h a w he hw)
theorem TC.exit {id : Nat} (h : TX n (Q (.exit id)) E C) : TC P n (.exit id) Q E C := fun a w he hw => wp_exit (h a w he hw)
theorem TC.block {id : Nat} {c : Code} (h : TC P n c (Exit.inBlock id Q) E C) : TC P n (.block id c) Q E C := fun a w he hw => wp_block (h a w he hw)
theorem TC.region {id : Nat} {l : List Oper} (h : TL P n l.toArray Q l E C) : TC P n (.region id l.toArray false) Q E C := fun a w he hw => wp_region_lit (wpList_of_wpW (h a w he hw))

theorem TC.cond {c : Operand} {x y : Code} {b : Bool} (hc : ev E c = some (.bool b)) (ht : b = true → TC P n x Q E C) (hf : b = false → TC P n y Q E C) : TC P n (.cond c x y) Q E C :=
  fun a w he hw => wp_cond_split (he.eval hc) (fun h => ht h a w he hw) (fun h => hf h a w he hw)
theorem TC.condD {c : Operand} {x y : Code} {p : Prop} [Decidable p] (hc : ev E c = some (.bool (decide p))) (ht : p → TC P n x Q E C) (hf : ¬ p → TC P n y Q E C) : TC P n (.cond c x y) Q E C :=
  TC.cond hc (fun h => ht (of_decide_eq_true h)) (fun h => hf (of_decide_eq_false h))
theorem TC.condND {c : Operand} {x y : Code} {p : Prop} [Decidable p] (hc : ev E c = some (.bool (!decide p))) (ht : ¬ p → TC P n x Q E C) (hf : p → TC P n y Q E C) : TC P n (.cond c x y) Q E C :=
  TC.cond hc (fun h => ht (by simpa using h)) (fun h => hf (by simpa using h))
theorem TC.condT {c : Operand} {x y : Code} (hc : ev E c = some (.bool true)) (ht : TC P n x Q E C) : TC P n (.cond c x y) Q E C :=
  fun a w he hw => wp_cond_true (he.eval hc) (ht a w he hw)
theorem TC.condF {c : Operand} {x y : Code} (hc : ev E c = some (.bool false)) (hf : TC P n y Q E C) : TC P n (.cond c x y) Q E C :=
  fun a w he hw => wp_cond_false (he.eval hc) (hf a w he hw)

theorem of_ndec_true {p : Prop} [Decidable p] (h : (!decide p) = true) : ¬ p := by simpa using h
theorem of_ndec_false {p : Prop} [Decidable p] (h : (!decide p) = false) : p := by simpa using h

/-! exits -/
theorem TX.seqN {y : Code} {Q : Exit → Act → World → Prop} (h : TC P n y Q E C) : TX n (Exit.then (y.wp P Q) Q .normal) E C := h
theorem TX.thenR {K : Act → World → Prop} (h : TX n (Q .ret) E C) : TX n (Exit.then K Q .ret) E C := h
theorem TX.thenE {K : Act → World → Prop} {id : Nat} (h : TX n (Q (.exit id)) E C) : TX n (Exit.then K Q (.exit id)) E C := h
theorem TX.blkN {id : Nat} (h : TX n (Q .normal) E C) : TX n (Exit.inBlock id Q .normal) E C := h
theorem TX.blkR {id : Nat} (h : TX n (Q .ret) E C) : TX n (Exit.inBlock id Q .ret) E C := h
theorem TX.blkHit {id : Nat} (h : TX n (Q .normal) E C) : TX n (Exit.inBlock id Q (.exit id)) E C := fun a w he hw => by
  have := h a w he hw
  simpa [Exit.inBlock] using this
theorem TX.blkMiss {id id' : Nat} (hne : Nat.beq id' id = false) (h : TX n (Q (.exit id')) E C) : TX n (Exit.inBlock id Q (.exit id')) E C := fun a w he hw => by
  have h1 := h a w he hw
  have : id' ≠ id := fun e => by rw [e, Nat.beq_refl] at hne; cases hne
  simpa [Exit.inBlock, this] using h1

/-- loops: 'V i' are the slots that turn, K those that stay -/
theorem TC.loop {ι : Type} {c : Code} (V : ι → Env) (K : Env) (L : ι → World → Prop) (I : ι → Prop) (μ : ι → Nat) (i : ι) (h0 : Sub (V i ++ K) E) (hi : I i) (hC : ∀ w, C w → L i w)
    (round : ∀ i, I i → TC P n c (Exit.then (fun a w => ∃ j, I j ∧ EOk n (V j ++ K) a ∧ L j w ∧ μ j < μ i) Q) (V i ++ K) (L i)) : TC P n (.loop c) Q E C := by
  intro a w he hw
  let J : Act → World → ι → Prop := fun a w i => I i ∧ EOk n (V i ++ K) a ∧ L i w
  have hJ : J a w i := ⟨hi, he.sub h0, hC w hw⟩
  intro b k cs
  have key : ∀ m i a w, μ i = m → J a w i →
      ∃ e a' w', Q e a' w' ∧ Arrives P (lone (b.at a (.code c :: .inLoop c :: k)) cs w) b k cs e a' w' := by
    intro m
    induction m using Nat.strongRecOn with
    | _ m ih =>
      intro i a w hm hJ
      obtain ⟨e, a₁, w₁, hq, harr⟩ := round i hJ.1 a w hJ.2.1 hJ.2.2 b (.inLoop c :: k) cs
      cases e with
      | normal =>
        obtain ⟨j, h1, h2, h3, h4⟩ := hq
        obtain ⟨e₂, a₂, w₂, hq₂, harr₂⟩ := ih (μ j) (hm ▸ h4) j a₁ w₁ rfl ⟨h1, h2, h3⟩
        exact ⟨e₂, a₂, w₂, hq₂, .of_steps (Steps.trans harr (.one step_inLoop)) harr₂⟩
      | exit id => exact ⟨_, a₁, w₁, hq, .pass (x := .inLoop c) rfl (fun _ _ => .inl (by simp)) harr⟩
      | goto l => exact ⟨_, a₁, w₁, hq, .pass (x := .inLoop c) rfl (fun _ _ => .inl (by simp)) harr⟩
      | ret => exact ⟨_, a₁, w₁, hq, .pass (x := .inLoop c) rfl (fun _ _ => .inl (by simp)) harr⟩
      | panic ch => exact ⟨_, a₁, w₁, hq, .pass (x := .inLoop c) rfl (fun _ _ => .inl (by simp)) harr⟩
      | outgrown => exact ⟨_, a₁, w₁, hq, .pass (x := .inLoop c) rfl (fun _ _ => .inl (by simp)) harr⟩
  obtain ⟨e, a', w', hq, harr⟩ := key _ i a w rfl hJ
  exact ⟨e, a', w', hq, .of_steps (.one step_loop) harr⟩

theorem TX.round {ι : Type} {V : ι → Env} {L : ι → World → Prop} {I : ι → Prop} {μ : ι → Nat} {i : ι} {E0 : Env} (j : ι) (hI : I j) (hs : Sub (V j ++ E0) E) (hC : ∀ w, C w → L j w) (hm : μ j < μ i) :
    TX n (Exit.then (fun a w => ∃ j, I j ∧ EOk n (V j ++ E0) a ∧ L j w ∧ μ j < μ i) Q .normal) E C := fun a w he hw => ⟨j, hI, he.sub hs, hC w hw, hm⟩

/-- where ways meet again: from here on as from 'V i ++ K', 'L i', for some index -/
theorem TC.mid {ι : Type} {x y : Code} (V : ι → Env) (K : Env) (hK : Sub K E) (L : ι → World → Prop) (I : ι → Prop)
    (hx : TC P n x (Exit.then (fun a w => ∃ j, I j ∧ EOk n (V j ++ K) a ∧ L j w) Q) E C)
    (hy : ∀ i, I i → TC P n y Q (V i ++ K) (L i)) : TC P n (.seq x y) Q E C := by
  intro a w he hw
  refine wp_seq (Code.wp_mono ?_ (hx a w he hw))
  intro e a' w' hq
  cases e with
  | normal => obtain ⟨j, h1, h2, h3⟩ := hq; exact hy j h1 a' w' h2 h3
  | exit id => exact hq
  | goto l => exact hq
  | ret => exact hq
  | panic ch => exact hq
  | outgrown => exact hq
theorem TX.mid {ι : Type} {V : ι → Env} {L : ι → World → Prop} {I : ι → Prop} {E0 : Env} (j : ι) (hI : I j) (hs : Sub (V j ++ E0) E) (hC : ∀ w, C w → L j w) :
    TX n (Exit.then (fun a w => ∃ j, I j ∧ EOk n (V j ++ E0) a ∧ L j w) Q .normal) E C := fun a w he hw => ⟨j, hI, he.sub hs, hC w hw⟩

/-! operations in their order -/
theorem TL.nil (h : TX n (Q .normal) E C) : TL P n ops Q [] E C := fun a w he hw => h a w he hw

theorem TL.run {v : Value} (hr : PR P E C op v) (hd : fits dst n = true) (h : TL P n ops Q rest (putE dst v E) C) : TL P n ops Q ({ dst := dst, op := op, type := ty, pos := pos, after := aft, guard := none } :: rest) E C := by
  intro a w he hw
  refine wpW_plain rfl (fun K hK => ?_)
  unfold Oper.wp
  rw [hr n a w _ rfl he hw]
  exact hK _ _ (h _ w (he.put hd) hw)

theorem TQ.nil {Cq : World → Prop} (h : TX n (Q .normal) E Cq) : TQ P n ops Cq (fun a' => ∀ w', Cq w' → Q .normal a' w') [] E := fun a he => wpQuiet_nil (fun w' hw' => h a w' he hw')

theorem TQ.run {v : Value} {Q : Act → Prop} (hr : PR P E C op v) (hd : fits dst n = true) (h : TQ P n ops C Q rest (putE dst v E)) : TQ P n ops C Q ({ dst := dst, op := op, type := ty, pos := pos, after := aft, guard := none } :: rest) E := by
  intro a he
  refine wpQuiet_step (fun K hK => ?_)
  simp only [Region.wanted, if_true]
  refine ⟨v, fun w hw => ?_, hK _ (h _ (he.put hd))⟩
  unfold Oper.quietAt
  rw [hr n a w _ rfl he hw]
  exact ⟨rfl, rfl⟩

/-- the slot of operation j -/
def dstOf (ops : Array Oper) (j : Nat) : Option Nat := match ops[j]? with
  | some o => o.dst
  | none => none

theorem yielded_of {a : Act} {j s : Nat} {b : Bool} (he : EOk n E a) (hj : dstOf ops j = some s) (hb : lk E s = some (.bool b)) : yielded ops a.tmps j = some b := by
  unfold yielded
  unfold dstOf at hj
  cases ho : ops[j]? with
  | none => rw [ho] at hj; cases hj
  | some o =>
    rw [ho] at hj
    simp only at hj
    simp [hj, he.at_ s _ hb]

/-- a guarded operation that is wanted -/
theorem TL.gdY {v : Value} {j s : Nat} {b : Bool} (hj : dstOf ops j = some s) (hb : lk E s = some (.bool b)) (hr : PR P E C op v) (hd : fits dst n = true) (h : TL P n ops Q rest (putE dst v E) C) :
    TL P n ops Q ({ dst := dst, op := op, type := ty, pos := pos, after := aft, guard := some (j, b) } :: rest) E C := by
  intro a w he hw
  refine wpW_step (fun K hK => ?_)
  have hy := yielded_of he hj hb
  simp only [Region.wanted, hy, BEq.rfl, if_true]
  unfold Oper.wp
  rw [hr n a w _ rfl he hw]
  exact hK _ _ (h _ w (he.put hd) hw)
/-- .. that is passed over -/
theorem TL.gdN {j s : Nat} {b b' : Bool} (hj : dstOf ops j = some s) (hb : lk E s = some (.bool b)) (hne : (b == b') = false) (hd : fits dst n = true) (h : TL P n ops Q rest (putE dst undef E) C) :
    TL P n ops Q ({ dst := dst, op := op, type := ty, pos := pos, after := aft, guard := some (j, b') } :: rest) E C := by
  intro a w he hw
  refine wpW_step (fun K hK => ?_)
  have hy := yielded_of he hj hb
  have hw' : (some b == some b') = false := by simpa using hne
  simp only [Region.wanted, hy, hw', if_false, Bool.false_eq_true]
  exact hK _ _ (h _ w (he.put hd) hw)
/-- .. behind one that was passed over itself -/
theorem TL.gdU {j s : Nat} {b' : Bool} (hj : dstOf ops j = some s) (hb : lk E s = some undef) (hd : fits dst n = true) (h : TL P n ops Q rest (putE dst undef E) C) :
    TL P n ops Q ({ dst := dst, op := op, type := ty, pos := pos, after := aft, guard := some (j, b') } :: rest) E C := by
  intro a w he hw
  refine wpW_step (fun K hK => ?_)
  have hy : yielded ops a.tmps j = none := by
    unfold yielded; unfold dstOf at hj
    cases ho : ops[j]? with
    | none => rw [ho] at hj; cases hj
    | some o => rw [ho] at hj; simp only at hj; simp [hj, he.at_ s _ hb, undef]
  simp only [Region.wanted, hy]
  exact hK _ _ (h _ w (he.put hd) hw)
theorem TQ.gdY {Q : Act → Prop} {v : Value} {j s : Nat} {b : Bool} (hj : dstOf ops j = some s) (hb : lk E s = some (.bool b)) (hr : PR P E C op v) (hd : fits dst n = true) (h : TQ P n ops C Q rest (putE dst v E)) :
    TQ P n ops C Q ({ dst := dst, op := op, type := ty, pos := pos, after := aft, guard := some (j, b) } :: rest) E := by
  intro a he
  refine wpQuiet_step (fun K hK => ?_)
  have hy := yielded_of he hj hb
  simp only [Region.wanted, hy, BEq.rfl, if_true]
  refine ⟨v, fun w hw => ?_, hK _ (h _ (he.put hd))⟩
  unfold Oper.quietAt
  rw [hr n a w _ rfl he hw]
  exact ⟨rfl, rfl⟩
theorem TQ.gdN {Q : Act → Prop} {j s : Nat} {b b' : Bool} (hj : dstOf ops j = some s) (hb : lk E s = some (.bool b)) (hne : (b == b') = false) (hd : fits dst n = true) (h : TQ P n ops C Q rest (putE dst undef E)) :
    TQ P n ops C Q ({ dst := dst, op := op, type := ty, pos := pos, after := aft, guard := some (j, b') } :: rest) E := by
  intro a he
  refine wpQuiet_step (fun K hK => ?_)
  have hy := yielded_of he hj hb
  have hw' : (some b == some b') = false := by simpa using hne
  simp only [Region.wanted, hy, hw', if_false, Bool.false_eq_true]
  exact hK _ (h _ (he.put hd))
theorem TQ.gdU {Q : Act → Prop} {j s : Nat} {b' : Bool} (hj : dstOf ops j = some s) (hb : lk E s = some undef) (hd : fits dst n = true) (h : TQ P n ops C Q rest (putE dst undef E)) :
    TQ P n ops C Q ({ dst := dst, op := op, type := ty, pos := pos, after := aft, guard := some (j, b') } :: rest) E := by
  intro a he
  refine wpQuiet_step (fun K hK => ?_)
  have hy : yielded ops a.tmps j = none := by
    unfold yielded; unfold dstOf at hj
    cases ho : ops[j]? with
    | none => rw [ho] at hj; cases hj
    | some o => rw [ho] at hj; simp only at hj; simp [hj, he.at_ s _ hb, undef]
  simp only [Region.wanted, hy]
  exact hK _ (h _ (he.put hd))

/-- part on a bool that stands in a slot -/
theorem TL.split {l : List Oper} {s : Nat} {b : Bool} (hb : lk E s = some (.bool b)) (ht : b = true → TL P n ops Q l ((s, .bool true) :: E) C) (hf : b = false → TL P n ops Q l ((s, .bool false) :: E) C) : TL P n ops Q l E C := by
  intro a w he hw
  have key : ∀ b', b = b' → EOk n ((s, .bool b') :: E) a := by
    rintro b' rfl
    refine ⟨he.sz, he.df, fun t v h => ?_⟩
    simp only [lk] at h
    split at h
    · rename_i hq
      have := Nat.eq_of_beq_eq_true hq
      subst this
      simp only [Option.some.injEq] at h
      subst h
      exact he.at_ _ _ hb
    · exact he.at_ _ _ h
  cases b
  · exact hf rfl a w (key _ rfl) hw
  · exact ht rfl a w (key _ rfl) hw
theorem TQ.split {Q : Act → Prop} {l : List Oper} {s : Nat} {b : Bool} (hb : lk E s = some (.bool b)) (ht : b = true → TQ P n ops C Q l ((s, .bool true) :: E)) (hf : b = false → TQ P n ops C Q l ((s, .bool false) :: E)) : TQ P n ops C Q l E := by
  intro a he
  have key : ∀ b', b = b' → EOk n ((s, .bool b') :: E) a := by
    rintro b' rfl
    refine ⟨he.sz, he.df, fun t v h => ?_⟩
    simp only [lk] at h
    split at h
    · rename_i hq
      have := Nat.eq_of_beq_eq_true hq
      subst this
      simp only [Option.some.injEq] at h
      subst h
      exact he.at_ _ _ hb
    · exact he.at_ _ _ h
  cases b
  · exact hf rfl a (key _ rfl)
  · exact ht rfl a (key _ rfl)

end

section
variable {P : Program} {n : Nat} {ops : Array Oper} {Q : Exit → Act → World → Prop} {E E' : Env} {M : List Nat} {w0 : World} {H0 H : Hp} {L : Blks} {rest : List Oper} {dst : Option Nat} {op : Op} {ty : TypeId} {pos : String} {aft : Array Edge}

theorem TC.quiet {id : Nat} {l : List Oper} (hm : P.follows .mixedOrders = true) (hB : Region.lexB .any l.toArray = true) (h : TQ P n l.toArray (St M w0 H0 H L) (fun a' => ∀ w', St M w0 H0 H L w' → Q .normal a' w') l E) :
    TC P n (.region id l.toArray true) Q E (St M w0 H0 H L) :=
  fun a w he hw => wp_region_quiet hm hB hw.drew (by simpa using h a he)

theorem TL.alloc {t : TypeId} {cs : List Value} [hz : Zero P t cs] (hd : fits dst n = true) (h : ∀ b, TL P n ops Q rest (putE dst (.pointer (some ⟨b, 0, none⟩)) E) (St M w0 H0 H ((b, cs) :: L))) :
    TL P n ops Q ({ dst := dst, op := .alloc t, type := ty, pos := pos, after := aft, guard := none } :: rest) E (St M w0 H0 H L) := by
  intro a w he hw
  refine wpW_plain rfl (fun K hK => ?_)
  have hi : ∃ i z, P.info? t = some i ∧ i.zero = some z ∧ z.cells.toList = cs := by
    have := hz.out
    unfold zeroB at this
    split at this
    · rename_i i hi
      split at this
      · rename_i z hz'
        simp only [Option.some.injEq] at this
        exact ⟨i, z, hi, hz', this⟩
      · cases this
    · cases this
  obtain ⟨i, z, hi, hzz, hcs⟩ := hi
  have hrun : (execOp a.eval { dst := dst, op := .alloc t, type := ty, pos := pos, after := aft, guard := none }).run P w = .ok (.value (.pointer (some ⟨w.heap.size, 0, none⟩))) (w.alloc (.cells z.cells t)) := by
    simp [execOp, Instr.alloc, zeroValue, typeInfo, hi, hzz, newVar, newRow]
  unfold Oper.wp
  rw [hrun]
  refine hK _ _ (h _ _ _ (he.put hd) ?_)
  have := hw.alloc z.cells.toList t
  rw [hcs] at this
  rw [← hcs] at this ⊢
  simpa using this

/-- a value of one cell -/
class One (v : Value) : Prop where
  cells : v.cells.toList = [v]
  one : v.oneCell' = true
instance {k : IntKind} {a : Int} : One (.int k a) := ⟨rfl, rfl⟩
instance {b : Bool} : One (.bool b) := ⟨rfl, rfl⟩
instance {s : ByteArray} : One (.string s) := ⟨rfl, rfl⟩
instance {l : List UInt8} : One (gs l) := ⟨rfl, rfl⟩
instance {a : Option Addr} : One (.pointer a) := ⟨rfl, rfl⟩
instance {a : Option Addr} {l c : Nat} : One (.slice a l c) := ⟨rfl, rfl⟩
instance {f : Fn} {a c : Array Value} : One (.func f a c) := ⟨rfl, rfl⟩
instance : One .nilFunc := ⟨rfl, rfl⟩
theorem RdSl.isOne {α : Type} {H : Hp} {k : Nat} {enc : α → List Value} {v : Value} {l : List α} (h : RdSl H k enc v l) : One v := by
  obtain ⟨a, cap, rfl⟩ := h.len
  infer_instance

theorem TL.box {t : TypeId} {x : Operand} {v : Value} (hx : ev E x = some v) (hd : fits dst n = true) (h : ∀ b, TL P n ops Q rest (putE dst (.pointer (some ⟨b, 0, none⟩)) E) (St M w0 H0 H ((b, v.cells.toList) :: L))) :
    TL P n ops Q ({ dst := dst, op := .box t x, type := ty, pos := pos, after := aft, guard := none } :: rest) E (St M w0 H0 H L) := by
  intro a w he hw
  refine wpW_plain rfl (fun K hK => ?_)
  have hrun : (execOp a.eval { dst := dst, op := .box t x, type := ty, pos := pos, after := aft, guard := none }).run P w = .ok (.value (.pointer (some ⟨w.heap.size, 0, none⟩))) (w.alloc (.cells v.cells t)) := by
    simp [execOp, Instr.box, he.eval hx, newVar, newRow]
  unfold Oper.wp
  rw [hrun]
  exact hK _ _ (h _ _ _ (he.put hd) (by simpa using hw.alloc v.cells.toList t))

theorem TL.box1 {t : TypeId} {x : Operand} {v : Value} (hx : ev E x = some v) [h1 : One v] (hd : fits dst n = true) (h : ∀ b, TL P n ops Q rest (putE dst (.pointer (some ⟨b, 0, none⟩)) E) (St M w0 H0 H ((b, [v]) :: L))) :
    TL P n ops Q ({ dst := dst, op := .box t x, type := ty, pos := pos, after := aft, guard := none } :: rest) E (St M w0 H0 H L) :=
  TL.box hx hd fun b => by rw [h1.cells]; exact h b

/-- cells written one behind the other -/
def setCells : List Value → Nat → List Value → List Value
  | cs, _, [] => cs
  | cs, o, v :: vs => setCells (cs.set o v) (o + 1) vs

theorem run_storeCells {b : Nat} : ∀ (vs : List Value) (cs : List Value) (o i : Nat) (L L' : Blks) (w : World), St M w0 H0 H L w → Upd b cs (setCells cs (o + i) vs) L L' → (∀ v ∈ vs, v.oneCell' = true) → o + i + vs.length ≤ cs.length →
    ∃ w', (storeCells ⟨b, o, none⟩ vs i).run P w = .ok () w' ∧ St M w0 H0 H L' w'
  | [], cs, o, i, L, L', w, hw, hu, _, _ => by
    refine ⟨w, by simp [storeCells], ?_⟩
    simp only [setCells] at hu
    have : L' = L := by
      clear hw
      induction hu with
      | here => rfl
      | there x _ ih => rw [ih]
    rw [this]; exact hw
  | v :: vs, cs, o, i, L, L', w, hw, hu, hv, hlen => by
    simp only [List.length_cons] at hlen
    have hin := hu.inl
    have hc : w.cell? ⟨b, o + i, none⟩ = some (cs[o + i]'(by omega)) := by rw [hw.cell hin]; exact List.getElem?_eq_getElem (by omega)
    obtain ⟨t, ht⟩ := hw.own _ hin.mem
    have hfz : w.frozen? ⟨b, o + i, none⟩ = false := by simp [World.frozen?, ht]
    have hmid : ∃ L1, Upd b cs (cs.set (o + i) v) L L1 ∧ Upd b (cs.set (o + i) v) (setCells cs (o + i) (v :: vs)) L1 L' := by
      clear hw hin hc ht
      generalize hf : setCells cs (o + i) (v :: vs) = fs at hu
      clear hf
      induction hu with
      | here L => exact ⟨_, .here _, .here _⟩
      | there x _ ih => obtain ⟨L1, h1, h2⟩ := ih; exact ⟨_, .there x h1, .there x h2⟩
    obtain ⟨L1, h1, h2⟩ := hmid
    have hst : St M w0 H0 H L1 (w.setCell ⟨b, o + i, none⟩ v) := by
      refine hw.set h1 _ (by simp) rfl rfl rfl (fun t ht => ?_) (fun k hk => RowKit.Below.heap_setCell w _ v k hk)
      have hlt := lt_of_cells ht
      simp only [World.setCell, Array.getElem?_modify, if_pos rfl]
      simp [ht]
    obtain ⟨w', hr, hw'⟩ := run_storeCells vs (cs.set (o + i) v) o (i + 1) L1 L' _ hst (by simpa [setCells, Nat.add_assoc] using h2) (fun u hu => hv u (List.mem_cons_of_mem _ hu)) (by simp; omega)
    refine ⟨w', ?_, hw'⟩
    have hs := run_store P w ⟨b, o + i, none⟩ v .plain (hv v (by simp))
    simp only [storeCells, Sem.run_bind, add_lit', hs, stored, hc, hfz]
    simpa using hr

theorem setCells_app : ∀ (vs pre cs : List Value), cs.length = vs.length → setCells (pre ++ cs) pre.length vs = pre ++ vs
  | [], pre, cs, h => by
    have : cs = [] := List.length_eq_zero_iff.1 (by simpa using h)
    subst this; simp [setCells]
  | v :: vs, pre, c :: cs, h => by
    simp only [setCells]
    have h1 : (pre ++ c :: cs).set pre.length v = (pre ++ [v]) ++ cs := by simp
    rw [h1]
    have := setCells_app vs (pre ++ [v]) cs (by simpa using h)
    simpa using this
  | v :: vs, pre, [], h => by simp at h

theorem setCells_whole {vs cs : List Value} (h : cs.length = vs.length) : setCells cs 0 vs = vs := by
  simpa using setCells_app vs [] cs h

theorem TL.storeG {t : TypeId} {agg : Bool} {k : Nat} {x y : Operand} {b o : Nat} {v : Value} {vs cs : List Value} {L' : Blks} (hx : ev E x = some (.pointer (some ⟨b, o, none⟩))) (hy : ev E y = some v) [ht : Ty P t agg k] (hvs : v.cells.toList = vs)
    (hk : vs.length = k) (h1 : vs.all (·.oneCell') = true) (hu : Upd b cs (setCells cs o vs) L L') (hl : o + k ≤ cs.length) (hd : fits dst n = true)
    (h : TL P n ops Q rest (putE dst undef E) (St M w0 H0 H L')) :
    TL P n ops Q ({ dst := dst, op := .store t x y, type := ty, pos := pos, after := aft, guard := none } :: rest) E (St M w0 H0 H L) := by
  intro a w he hw
  refine wpW_plain rfl (fun K hK => ?_)
  obtain ⟨w', hr, hw'⟩ := run_storeCells (P := P) vs cs o 0 L L' w hw (by simpa using hu) (fun u hu => List.all_eq_true.1 h1 u hu) (by simpa [hk] using hl)
  have hsz : v.cells.size = k := by rw [← hk, ← hvs]; simp
  have hrun : (execOp a.eval { dst := dst, op := .store t x y, type := ty, pos := pos, after := aft, guard := none }).run P w = .ok .skip w' := by
    simp only [execOp, he.eval hx, he.eval hy, Instr.storeAt, Instr.sureAddr, storeVar]
    simp [run_sizeOf ht, hsz, hvs, hr]
  unfold Oper.wp
  rw [hrun]
  exact hK _ _ (h _ _ (he.put hd) hw')

/-- a store of one cell -/
theorem TL.store1 {t : TypeId} {k : Nat} {x y : Operand} {b o : Nat} {v : Value} {cs : List Value} {L' : Blks} (hx : ev E x = some (.pointer (some ⟨b, o, none⟩))) (hy : ev E y = some v) [ht : Ty P t false k] [h1 : One v]
    (hk : k = 1) (hu : Upd b cs (cs.set o v) L L') (hl : Nat.blt o cs.length = true) (hd : fits dst n = true)
    (h : TL P n ops Q rest (putE dst undef E) (St M w0 H0 H L')) :
    TL P n ops Q ({ dst := dst, op := .store t x y, type := ty, pos := pos, after := aft, guard := none } :: rest) E (St M w0 H0 H L) :=
  TL.storeG (vs := [v]) hx hy h1.cells (by simp [hk]) (by simp [h1.one]) hu (by rw [Nat.blt_eq] at hl; omega) hd h
/-- a variable of one cell written -/
theorem TL.storeV {t : TypeId} {k : Nat} {x y : Operand} {b : Nat} {v u : Value} {L' : Blks} (hx : ev E x = some (.pointer (some ⟨b, 0, none⟩))) (hy : ev E y = some v) [ht : Ty P t false k] [h1 : One v]
    (hk : k = 1) (hu : Upd b [u] [v] L L') (hd : fits dst n = true)
    (h : TL P n ops Q rest (putE dst undef E) (St M w0 H0 H L')) :
    TL P n ops Q ({ dst := dst, op := .store t x y, type := ty, pos := pos, after := aft, guard := none } :: rest) E (St M w0 H0 H L) :=
  TL.store1 hx hy hk hu (by rfl) hd h
/-- a whole block written -/
theorem TL.storeA {t : TypeId} {agg : Bool} {k : Nat} {x y : Operand} {b : Nat} {v : Value} {vs cs : List Value} {L' : Blks} (hx : ev E x = some (.pointer (some ⟨b, 0, none⟩))) (hy : ev E y = some v) [ht : Ty P t agg k] (hvs : v.cells.toList = vs)
    (hk : vs.length = k) (h1 : vs.all (·.oneCell') = true) (hu : Upd b cs vs L L') (hl : cs.length = k) (hd : fits dst n = true)
    (h : TL P n ops Q rest (putE dst undef E) (St M w0 H0 H L')) :
    TL P n ops Q ({ dst := dst, op := .store t x y, type := ty, pos := pos, after := aft, guard := none } :: rest) E (St M w0 H0 H L) :=
  TL.storeG hx hy hvs hk h1 (by rw [setCells_whole (hl.trans hk.symm)]; exact hu) (by omega) hd h

end
end Go.Sx

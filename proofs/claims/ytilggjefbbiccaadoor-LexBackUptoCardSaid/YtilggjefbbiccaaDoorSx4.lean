import Derived.Test.YtilggjefbbiccaaDoorSx3
set_option linter.unusedSimpArgs false
set_option linter.unusedVariables false
namespace Go.Sx
open Go

/-! ## contracts -/
def keys (L : Blks) : List Nat := L.map (·.1)

def Post (K : List Nat) (w0 : World) (H0 : Hp) (Φ : Value → Hp → Blks → Prop) : Ending → World → Prop :=
  fun e w' => ∃ v H' L', e = .returned v ∧ St K w0 H0 H' L' w' ∧ keys L' = K ∧ Φ v H' L'

/-- what f comes to: L1: the blocks that it may write -/
def FnM (P : Program) (f : FuncId) (args : List Value) (H : Hp) (L1 : Blks) (Φ : Value → Hp → Blks → Prop) : Prop :=
  ∀ w, St (keys L1) w H H L1 w → Calls P f args.toArray w (Post (keys L1) w H Φ)

/-- a function that writes nothing of what was there -/
def Fn (P : Program) (f : FuncId) (args : List Value) (H : Hp) (Φ : Value → Hp → Prop) : Prop := FnM P f args H [] (fun v H' _ => Φ v H')

/-- .. whose result is a plain value -/
def FnS (P : Program) (f : FuncId) (args : List Value) (H : Hp) (v : Value) : Prop := Fn P f args H (fun v' H' => v' = v ∧ H' = H)

def initE : Nat → List Value → Env
  | _, [] => []
  | k, v :: vs => (k, v) :: initE (k + 1) vs

theorem initE_lk : ∀ (vs : List Value) (k t : Nat) (v : Value), lk (initE k vs) t = some v → k ≤ t ∧ vs[t - k]? = some v
  | [], k, t, v, h => by simp [initE, lk] at h
  | u :: vs, k, t, v, h => by
    simp only [initE, lk] at h
    split at h
    · rename_i hb
      have := Nat.eq_of_beq_eq_true hb
      subst this
      simpa using h
    · have := initE_lk vs (k + 1) t v h
      refine ⟨by omega, ?_⟩
      have hs : t - k = (t - (k + 1)) + 1 := by omega
      rw [hs]
      simpa using this.2

theorem FnM.enter {P : Program} {f : FuncId} {args : List Value} {H : Hp} {L1 : Blks} {Φ : Value → Hp → Blks → Prop} {fn : Func} {c : Code} {n : Nat}
    (hf : P.funcs[f]? = some fn) (hn : fn.ntmps = n) (hb : fn.body = some c) (hl : Nat.ble args.length n = true)
    (h : ∀ w0, TC P n c (bodyPost P fn (Post (keys L1) w0 H Φ)) (initE 0 args) (St (keys L1) w0 H H L1)) : FnM P f args H L1 Φ := by
  intro w hw
  refine calls_of_wp hf hb (h w _ w ⟨?_, rfl, fun t v ht => ?_⟩ hw)
  · have := Nat.le_of_ble_eq_true hl
    simp [hn]
    omega
  · have h1 := (initE_lk args 0 t v ht).2
    simp only [Nat.sub_zero] at h1
    have h2 : t < args.length := (List.getElem?_eq_some_iff.1 h1).1
    rw [Array.getElem?_append_left (by simpa using h2)]
    simpa using h1

theorem Fn.enter {P : Program} {f : FuncId} {args : List Value} {H : Hp} {Φ : Value → Hp → Prop} {fn : Func} {c : Code} {n : Nat}
    (hf : P.funcs[f]? = some fn) (hn : fn.ntmps = n) (hb : fn.body = some c) (hl : Nat.ble args.length n = true)
    (h : ∀ w0, TC P n c (bodyPost P fn (Post [] w0 H (fun v H' _ => Φ v H'))) (initE 0 args) (St [] w0 H H [])) : Fn P f args H Φ := FnM.enter hf hn hb hl h
theorem FnS.enter {P : Program} {f : FuncId} {args : List Value} {H : Hp} {v : Value} {fn : Func} {c : Code} {n : Nat}
    (hf : P.funcs[f]? = some fn) (hn : fn.ntmps = n) (hb : fn.body = some c) (hl : Nat.ble args.length n = true)
    (h : ∀ w0, TC P n c (bodyPost P fn (Post [] w0 H (fun v' H' _ => v' = v ∧ H' = H))) (initE 0 args) (St [] w0 H H [])) : FnS P f args H v := FnM.enter hf hn hb hl h

/-- L1 is what is left of L when the first blocks are dropped -/
inductive Tail (L1 : Blks) : Blks → Prop
  | here : Tail L1 L1
  | there {L : Blks} (x : Nat × List Value) (h : Tail L1 L) : Tail L1 (x :: L)

theorem Tail.nil : ∀ L : Blks, Tail [] L
  | [] => .here
  | x :: L => .there x (Tail.nil L)

theorem Tail.st {M : List Nat} {w0 w : World} {H0 H : Hp} {L1 L : Blks} (h : Tail L1 L) (hw : St M w0 H0 H L w) : St M w0 H0 H L1 w := by
  induction h with
  | here => exact hw
  | there x _ ih => exact ih hw.drop

section
variable {P : Program} {n : Nat} {ops : Array Oper} {Q : Exit → Act → World → Prop} {E E' : Env} {M : List Nat} {w0 : World} {H0 H : Hp} {L : Blks} {rest : List Oper} {dst : Option Nat} {op : Op} {ty : TypeId} {pos : String} {aft : Array Edge}

/-- the value of a result variable -/
def RVal (P : Program) (E : Env) (C : World → Prop) (r : ResultVar) (v : Value) : Prop := match r with
  | .tmp t => lk E t = some v
  | .cell a ty => ∃ b, lk E a = some (.pointer (some ⟨b, 0, none⟩)) ∧ ∀ w, C w → (loadVar ty ⟨b, 0, none⟩).run P w = .ok v w

theorem RVal.tmp {C : World → Prop} {t : Nat} {v : Value} (h : lk E t = some v) : RVal P E C (.tmp t) v := h
theorem RVal.cellA {a t b : Nat} {cs : List Value} (h : lk E a = some (.pointer (some ⟨b, 0, none⟩))) (hL : InL b cs L) {k : Nat} [ht : Ty P t true k] (hk : cs.length = k) : RVal P E (St M w0 H0 H L) (.cell a t) (.agg cs.toArray) :=
  ⟨b, h, fun w hw => run_loadVar_agg (hk ▸ ht) (fun j v hj => by rw [Nat.zero_add, hw.cell hL j]; exact hj)⟩
theorem RVal.cell1 {a t b k : Nat} {v : Value} (h : lk E a = some (.pointer (some ⟨b, 0, none⟩))) (hL : InL b [v] L) [ht : Ty P t false k] : RVal P E (St M w0 H0 H L) (.cell a t) v :=
  ⟨b, h, fun w hw => run_loadVar_one ht (by rw [hw.cell hL 0]; rfl)⟩

def RVal.Is (P : Program) (a : Act) (w : World) (r : ResultVar) (v : Value) : Prop := match r with
  | .tmp t => a.tmps[t]?.getD undef = v
  | .cell p t => ∃ b, (asAddr (a.tmps[p]?.getD undef)).run P w = .ok ⟨b, 0, none⟩ w ∧ (loadVar t ⟨b, 0, none⟩).run P w = .ok v w

theorem RVal.run {C : World → Prop} {r : ResultVar} {v : Value} (h : RVal P E C r v) {a : Act} {w : World} (he : EOk n E a) (hw : C w) : RVal.Is P a w r v := by
  cases r with
  | tmp t => simp [RVal.Is, he.at_ t v h]
  | cell p t =>
    obtain ⟨b, h1, h2⟩ := h
    exact ⟨b, by simp [he.at_ p _ h1, asAddr], h2 w hw⟩

theorem TX.end_ {fn : Func} {R : Ending → World → Prop} {C : World → Prop} {v : Value} (e : Exit) (he : e = .normal ∨ e = .ret) (hr : ∀ a w, EOk n E a → C w → (results fn a.tmps).run P w = .ok v w) (h : ∀ w, C w → R (.returned v) w) :
    TX n (bodyPost P fn R e) E C := by
  intro a w ha hw
  rcases he with rfl | rfl
  · exact ⟨ha.df, v, hr a w ha hw, h w hw⟩
  · exact ⟨ha.df, v, hr a w ha hw, h w hw⟩

theorem results1 {fn : Func} {C : World → Prop} {r : ResultVar} {v : Value} (hr : fn.results = #[r]) (hv : RVal P E C r v) : ∀ a w, EOk n E a → C w → (results fn a.tmps).run P w = .ok v w := by
  intro a w he hw
  have h1 := hv.run he hw
  cases r with
  | tmp t => simp only [RVal.Is] at h1; simp [results, hr, h1]
  | cell p t => obtain ⟨b, h1, h1'⟩ := h1; simp [results, hr, h1, h1']
theorem results2 {fn : Func} {C : World → Prop} {r s : ResultVar} {u v : Value} (hr : fn.results = #[r, s]) (hu : RVal P E C r u) (hv : RVal P E C s v) : ∀ a w, EOk n E a → C w → (results fn a.tmps).run P w = .ok (.tuple #[u, v]) w := by
  intro a w he hw
  have h1 := hu.run he hw
  have h2 := hv.run he hw
  cases r with
  | tmp t => cases s with
    | tmp t' => simp only [RVal.Is] at h1 h2; simp [results, hr, h1, h2]
    | cell p t' => obtain ⟨b, h2, h2'⟩ := h2; simp only [RVal.Is] at h1; simp [results, hr, h1, h2, h2']
  | cell p t => obtain ⟨b, h1, h1'⟩ := h1; cases s with
    | tmp t' => simp only [RVal.Is] at h2; simp [results, hr, h1, h1', h2]
    | cell p t' => obtain ⟨b, h2, h2'⟩ := h2; simp [results, hr, h1, h1', h2, h2']
theorem results3 {fn : Func} {C : World → Prop} {r s t : ResultVar} {u v x : Value} (hr : fn.results = #[r, s, t]) (hu : RVal P E C r u) (hv : RVal P E C s v) (hx : RVal P E C t x) : ∀ a w, EOk n E a → C w → (results fn a.tmps).run P w = .ok (.tuple #[u, v, x]) w := by
  intro a w he hw
  have h1 := hu.run he hw
  have h2 := hv.run he hw
  have h3 := hx.run he hw
  cases r with
  | tmp t1 => cases s with
    | tmp t2 => cases t with
      | tmp t3 => simp only [RVal.Is] at h1 h2 h3; simp [results, hr, h1, h2, h3]
      | cell p t3 => obtain ⟨b, h3, h3'⟩ := h3; simp only [RVal.Is] at h1 h2; simp [results, hr, h1, h2, h3, h3']
    | cell p t2 => obtain ⟨b, h2, h2'⟩ := h2; cases t with
      | tmp t3 => simp only [RVal.Is] at h1 h3; simp [results, hr, h1, h2, h2', h3]
      | cell p t3 => obtain ⟨b, h3, h3'⟩ := h3; simp only [RVal.Is] at h1; simp [results, hr, h1, h2, h2', h3, h3']
  | cell p t1 => obtain ⟨b, h1, h1'⟩ := h1; cases s with
    | tmp t2 => cases t with
      | tmp t3 => simp only [RVal.Is] at h2 h3; simp [results, hr, h1, h1', h2, h3]
      | cell p t3 => obtain ⟨b, h3, h3'⟩ := h3; simp only [RVal.Is] at h2; simp [results, hr, h1, h1', h2, h3, h3']
    | cell p t2 => obtain ⟨b, h2, h2'⟩ := h2; cases t with
      | tmp t3 => simp only [RVal.Is] at h3; simp [results, hr, h1, h1', h2, h2', h3]
      | cell p t3 => obtain ⟨b, h3, h3'⟩ := h3; simp [results, hr, h1, h1', h2, h2', h3, h3']
theorem results0 {fn : Func} {C : World → Prop} (hr : fn.results = #[]) : ∀ a w, EOk n E a → C w → (results fn a.tmps).run P w = .ok (.tuple #[]) w := fun a w _ _ => results_none hr _ _ _

/-- the function's end: the value, what is left of the blocks, what is claimed of both -/
theorem TX.fin {fn : Func} {K : List Nat} {Φ : Value → Hp → Blks → Prop} {v : Value} {L1 : Blks} {e : Exit} (he : e = .normal ∨ e = .ret) (hr : ∀ a w, EOk n E a → St K w0 H0 H L w → (results fn a.tmps).run P w = .ok v w)
    (hT : Tail L1 L) (hk : keys L1 = K) (h : Φ v H L1) : TX n (bodyPost P fn (Post K w0 H0 Φ) e) E (St K w0 H0 H L) :=
  TX.end_ e he hr fun w hw => ⟨v, H, L1, rfl, hT.st hw, hk, h⟩
theorem TX.fin0 {fn : Func} {Φ : Value → Hp → Prop} {v : Value} {e : Exit} (he : e = .normal ∨ e = .ret) (hr : ∀ a w, EOk n E a → St [] w0 H0 H L w → (results fn a.tmps).run P w = .ok v w) (h : Φ v H) :
    TX n (bodyPost P fn (Post [] w0 H0 (fun v H' _ => Φ v H')) e) E (St [] w0 H0 H L) :=
  TX.fin he hr (Tail.nil L) rfl h

/-! ## calls -/
theorem St.pass1 {L1 L2 : Blks} {w : World} (h : St M w0 H0 H (L1 ++ L2) w) : St (keys L1) w H H L1 w := by
  have hnd := h.nd
  rw [List.map_append, List.nodup_append] at hnd
  exact ⟨rfl, rfl, rfl, Nat.le_refl _, fun _ _ _ => rfl, h.hp, fun p hp => h.own p (List.mem_append_left _ hp), fun p hp o => h.sep p (List.mem_append_left _ hp) o, hnd.1,
    fun p hp => .inl (List.mem_map.2 ⟨p, hp, rfl⟩), Fresh.refl _ _⟩

theorem St.pastM {L1 L1' L2 : Blks} {w w' : World} {H' : Hp} (h : St M w0 H0 H (L1 ++ L2) w) (h' : St (keys L1) w H H' L1' w') (hk : keys L1' = keys L1) : St M w0 H0 H' (L1' ++ L2) w' := by
  have hnd := h.nd
  rw [List.map_append, List.nodup_append] at hnd
  have hk' : L1'.map (·.1) = L1.map (·.1) := hk
  refine ⟨h'.os.trans h.os, h'.tape.trans h.tape, h'.output.trans h.output, Nat.le_trans h.size h'.size, fun b hb hM => ?_, h'.hp, fun p hp => ?_, fun p hp o => ?_, ?_, fun p hp => ?_, h.fr.trans h'.fr h.size⟩
  · have hnk : b ∉ keys L1 := by
      intro hm
      obtain ⟨p, hp, rfl⟩ := List.mem_map.1 hm
      rcases h.mine p (List.mem_append_left _ hp) with hx | hx
      · exact hM hx
      · omega
    exact (h'.old b (by have := h.size; omega) hnk).trans (h.old b hb hM)
  · rcases List.mem_append.1 hp with hp | hp
    · exact h'.own p hp
    · obtain ⟨t, ht⟩ := h.own p (List.mem_append_right _ hp)
      refine ⟨t, (h'.old _ (lt_of_cells ht) ?_).trans ht⟩
      intro hm
      exact hnd.2.2 _ hm _ (List.mem_map.2 ⟨p, hp, rfl⟩) rfl
  · rcases List.mem_append.1 hp with hp | hp
    · exact h'.sep p hp o
    · cases ho : H' p.1 o with
      | none => rfl
      | some v =>
        have h1 := h'.fr.2 _ _ _ ho (h.sep p (List.mem_append_right _ hp) o)
        have h2 := h.lt (List.mem_append_right _ hp)
        omega
  · rw [List.map_append, hk', ← List.map_append]; exact h.nd
  · rcases List.mem_append.1 hp with hp | hp
    · have : p.1 ∈ L1.map (·.1) := by rw [← hk']; exact List.mem_map.2 ⟨p, hp, rfl⟩
      obtain ⟨q, hq, he⟩ := List.mem_map.1 this
      have := h.mine q (List.mem_append_left _ hq)
      rwa [he] at this
    · exact h.mine p (List.mem_append_right _ hp)

theorem call_run {f : FuncId} [hb : Body P f] (args : Array Value) (w : World) : (callFunc f args).run P w = .ok (.enter f args) w := by
  have := hb.out
  unfold bodyB at this
  cases hf : P.funcs[f]? with
  | none => rw [hf] at this; cases this
  | some fn =>
    rw [hf] at this
    simp only [Bool.and_eq_true, Bool.not_eq_true', beq_eq_false_iff_ne, ne_eq] at this
    obtain ⟨h1, h2⟩ := this
    cases hbd : fn.body with
    | none => rw [hbd] at h1; cases h1
    | some c => simp [callFunc, hf, h2, hbd]

/-- a call's operation is the entering of f -/
def Enters (P : Program) (E : Env) (op : Op) (f : FuncId) (args : List Value) : Prop :=
  ∀ (n : Nat) (a : Act) (w : World) (o : Oper), o.op = op → EOk n E a → (execOp a.eval o).run P w = .ok (.enter f args.toArray) w

theorem enters {c : Call} {x : Operand} {f : FuncId} {fst cap : Array Value} {vs args : List Value} (hc : c.callee = .value x) (hx : ev E x = some (.func (.func f) fst cap)) (hvs : evs E c.args.toList = some vs)
    (hargs : fst.toList ++ (vs ++ cap.toList) = args) [Body P f] : Enters P E (.call c) f args := by
  intro n a w o ho he
  unfold execOp
  rw [ho]
  have h1 : (fst ++ vs.toArray) ++ cap = args.toArray := by
    apply Array.ext'
    simp [← hargs]
  simp [resolve, hc, he.eval hx, map_evs he hvs, Deferred.ofValue, invoke, h1, call_run]

theorem TL.callM {f : FuncId} {args : List Value} {L1 L2 : Blks} {Φ : Value → Hp → Blks → Prop} (hE : Enters P E op f args) (hF : FnM P f args H L1 Φ) (hd : fits dst n = true)
    (h : ∀ v H' L1', H.le H' → keys L1' = keys L1 → Φ v H' L1' → TL P n ops Q rest (putE dst v E) (St M w0 H0 H' (L1' ++ L2))) :
    TL P n ops Q ({ dst := dst, op := op, type := ty, pos := pos, after := aft, guard := none } :: rest) E (St M w0 H0 H (L1 ++ L2)) := by
  intro a w he hw
  refine wpW_plain rfl (fun K hK => ?_)
  unfold Oper.wp
  rw [hE n a w _ rfl he]
  refine (hF w hw.pass1).mono ?_
  rintro e w' ⟨v, H', L1', rfl, hst, hk, hΦ⟩
  exact hK _ _ (h v H' L1' hst.fr.1 hk hΦ _ _ (he.put hd) (hw.pastM hst hk))

theorem TL.call {f : FuncId} {args : List Value} {Φ : Value → Hp → Prop} (hE : Enters P E op f args) (hF : Fn P f args H Φ) (hd : fits dst n = true)
    (h : ∀ v H', H.le H' → Φ v H' → TL P n ops Q rest (putE dst v E) (St M w0 H0 H' L)) :
    TL P n ops Q ({ dst := dst, op := op, type := ty, pos := pos, after := aft, guard := none } :: rest) E (St M w0 H0 H L) :=
  TL.callM (L1 := []) (L2 := L) hE hF hd fun v H' L1' hle hk hΦ => by
    have : L1' = [] := by cases L1' with | nil => rfl | cons x l => cases hk
    subst this
    exact h v H' hle hΦ

theorem TL.callS {f : FuncId} {args : List Value} {v : Value} (hE : Enters P E op f args) (hF : FnS P f args H v) (hd : fits dst n = true)
    (h : TL P n ops Q rest (putE dst v E) (St M w0 H0 H L)) :
    TL P n ops Q ({ dst := dst, op := op, type := ty, pos := pos, after := aft, guard := none } :: rest) E (St M w0 H0 H L) :=
  TL.call hE hF hd fun v' H' _ hΦ => by obtain ⟨rfl, rfl⟩ := hΦ; exact h

theorem TQ.callS {Q : Act → Prop} {f : FuncId} {args : List Value} {v : Value} (hE : Enters P E op f args) (hF : FnS P f args H v) (hd : fits dst n = true)
    (h : TQ P n ops (St M w0 H0 H L) Q rest (putE dst v E)) :
    TQ P n ops (St M w0 H0 H L) Q ({ dst := dst, op := op, type := ty, pos := pos, after := aft, guard := none } :: rest) E := by
  intro a he
  refine wpQuiet_step (fun K hK => ?_)
  simp only [Region.wanted, if_true]
  refine ⟨v, fun w hw => ?_, hK _ (h _ (he.put hd))⟩
  unfold Oper.quietAt
  rw [hE n a w _ rfl he]
  refine ⟨rfl, (hF w (St.pass1 (L1 := []) (L2 := L) hw)).mono ?_⟩
  rintro e w' ⟨v', H', L1', rfl, hst, hk, rfl, rfl⟩
  have : L1' = [] := by cases L1' with | nil => rfl | cons x l => cases hk
  subst this
  exact ⟨rfl, hw.past hst⟩
theorem TQ.callSY {Q : Act → Prop} {f : FuncId} {args : List Value} {v : Value} {j s : Nat} {b : Bool} (hj : dstOf ops j = some s) (hb : lk E s = some (.bool b)) (hE : Enters P E op f args) (hF : FnS P f args H v) (hd : fits dst n = true)
    (h : TQ P n ops (St M w0 H0 H L) Q rest (putE dst v E)) :
    TQ P n ops (St M w0 H0 H L) Q ({ dst := dst, op := op, type := ty, pos := pos, after := aft, guard := some (j, b) } :: rest) E := by
  intro a he
  refine wpQuiet_step (fun K hK => ?_)
  have hy := yielded_of he hj hb
  simp only [Region.wanted, hy, BEq.rfl, if_true]
  refine ⟨v, fun w hw => ?_, hK _ (h _ (he.put hd))⟩
  unfold Oper.quietAt
  rw [hE n a w _ rfl he]
  refine ⟨rfl, (hF w (St.pass1 (L1 := []) (L2 := L) hw)).mono ?_⟩
  rintro e w' ⟨v', H', L1', rfl, hst, hk, rfl, rfl⟩
  have : L1' = [] := by cases L1' with | nil => rfl | cons x l => cases hk
  subst this
  exact ⟨rfl, hw.past hst⟩
theorem TL.callMY {f : FuncId} {args : List Value} {L1 L2 : Blks} {Φ : Value → Hp → Blks → Prop} {j s : Nat} {b : Bool} (hj : dstOf ops j = some s) (hb : lk E s = some (.bool b)) (hE : Enters P E op f args) (hF : FnM P f args H L1 Φ) (hd : fits dst n = true)
    (h : ∀ v H' L1', H.le H' → keys L1' = keys L1 → Φ v H' L1' → TL P n ops Q rest (putE dst v E) (St M w0 H0 H' (L1' ++ L2))) :
    TL P n ops Q ({ dst := dst, op := op, type := ty, pos := pos, after := aft, guard := some (j, b) } :: rest) E (St M w0 H0 H (L1 ++ L2)) := by
  intro a w he hw
  refine wpW_step (fun K hK => ?_)
  have hy := yielded_of he hj hb
  simp only [Region.wanted, hy, BEq.rfl, if_true]
  unfold Oper.wp
  rw [hE n a w _ rfl he]
  refine (hF w hw.pass1).mono ?_
  rintro e w' ⟨v, H', L1', rfl, hst, hk, hΦ⟩
  exact hK _ _ (h v H' L1' hst.fr.1 hk hΦ _ _ (he.put hd) (hw.pastM hst hk))
theorem TL.callY {f : FuncId} {args : List Value} {Φ : Value → Hp → Prop} {j s : Nat} {b : Bool} (hj : dstOf ops j = some s) (hb : lk E s = some (.bool b)) (hE : Enters P E op f args) (hF : Fn P f args H Φ) (hd : fits dst n = true)
    (h : ∀ v H', H.le H' → Φ v H' → TL P n ops Q rest (putE dst v E) (St M w0 H0 H' L)) :
    TL P n ops Q ({ dst := dst, op := op, type := ty, pos := pos, after := aft, guard := some (j, b) } :: rest) E (St M w0 H0 H L) :=
  TL.callMY (L1 := []) (L2 := L) hj hb hE hF hd fun v H' L1' hle hk hΦ => by
    have : L1' = [] := by cases L1' with | nil => rfl | cons x l => cases hk
    subst this
    exact h v H' hle hΦ
theorem TL.callSY {f : FuncId} {args : List Value} {v : Value} {j s : Nat} {b : Bool} (hj : dstOf ops j = some s) (hb : lk E s = some (.bool b)) (hE : Enters P E op f args) (hF : FnS P f args H v) (hd : fits dst n = true)
    (h : TL P n ops Q rest (putE dst v E) (St M w0 H0 H L)) :
    TL P n ops Q ({ dst := dst, op := op, type := ty, pos := pos, after := aft, guard := some (j, b) } :: rest) E (St M w0 H0 H L) :=
  TL.callY hj hb hE hF hd fun v' H' _ hΦ => by obtain ⟨rfl, rfl⟩ := hΦ; exact h
end
end Go.Sx

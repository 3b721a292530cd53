import Derived.Test.YtgagehpnkecmkaaDoorPureTr
import Derived.Test.YtgagehpnkecmkaaDoorPureKN
import Derived.Test.YtgagehpnkecmkaaDoorPureL4
set_option linter.unusedVariables false
set_option linter.unusedSimpArgs false
namespace Go.Sx
open Go
/-! ## laws of layer 4 about trees -/
/-! binds in cells, whatever their lists are -/
def slN : Value → Value
  | .slice a n c => .slice a n c
  | _ => .slice none 0 0
def Bind.cells2 (b : Bind) : List Value := [gs b.name, .int .i64 b.v.k, .int .i64 b.v.n, gs b.v.s, slN b.lv]
theorem slN_one (v : Value) : (slN v).oneCell' = true := by
  cases v <;> rfl
instance : Cells 5 Bind.cells2 := ⟨fun _ => rfl, by decide, fun x => by simp [Bind.cells2, slN_one]; exact ⟨rfl, rfl, rfl, rfl⟩⟩
def SlB (env : List Bind) : Prop := ∀ b ∈ env, slN b.lv = b.lv
theorem EnvOk.slb {H : Hp} {env : List Bind} (h : EnvOk H env) : SlB env := fun b hb => by
  obtain ⟨a, c, e⟩ := RdSl.len (h b hb)
  rw [e]; rfl
theorem cells2_eq {b : Bind} (h : slN b.lv = b.lv) : b.cells2 = b.cells := by unfold Bind.cells2 Bind.cells; rw [h]
theorem RdSl.to2 {H : Hp} {v : Value} {env : List Bind} (h : RdSl H 5 Bind.cells v env) (hs : SlB env) : RdSl H 5 Bind.cells2 v env :=
  ⟨h.len, h.max, h.addr, fun i x hx j u hu => h.get i x hx j u (by rw [← cells2_eq (hs x (List.mem_of_getElem? hx))]; exact hu), h.room⟩
theorem RdSl.of2 {H : Hp} {v : Value} {env : List Bind} (h : RdSl H 5 Bind.cells2 v env) (hs : SlB env) : RdSl H 5 Bind.cells v env :=
  ⟨h.len, h.max, h.addr, fun i x hx j u hu => h.get i x hx j u (by rw [cells2_eq (hs x (List.mem_of_getElem? hx))]; exact hu), h.room⟩
/-! all values are valid -/
theorem applyV_may (k : Int) (a b : Val) : (applyV k a b).2 = 0 → mayV (applyV k a b).1 = true := by
  unfold applyV numV atV pushV joinV wrongV
  (repeat' split) <;> intro h <;> simp_all [mayV, truthV, v0] <;> first | omega | (split <;> simp)
theorem holdV_may (env : List Bind) (s : Str) : (holdV env s).2 = 0 → mayV (holdV env s).1 = true := by
  induction env with
  | nil => intro h; exact absurd h (by simp [holdV])
  | cons b r ih =>
    unfold holdV
    split
    · split
      · rename_i h; intro _; exact h
      · intro h; exact absurd h (by simp)
    · exact ih
theorem leafV_may {t : Term} (env : List Bind) (hf : fieldsB t = true) : (leafV t env).2 = 0 → mayV (leafV t env).1 = true := by
  unfold leafV
  split
  · intro _; exact may_int _
  split
  · rename_i h2
    intro _
    unfold fieldsB at hf
    simp [h2] at hf
    unfold mayV; simp; exact hf.2.2
  split
  · rename_i h3
    intro _
    unfold fieldsB at hf
    simp [h3] at hf
    unfold mayV; simp; omega
  split
  · intro _; decide
  split
  · intro _; decide
  · exact holdV_may env t.name
theorem evalW_may {l : List Term} {env : List Bind} : ∀ (f : Nat) (at_ : Int), Tr l f at_ → (evalW l env f at_).2 = 0 → mayV (evalW l env f at_).1 = true
  | 0, _, h => h.elim
  | f + 1, at_, h => by
    obtain ⟨_, t, hx, _, hf, _⟩ := h
    simp only [evalW, hx]
    split
    · exact leafV_may env hf
    split
    · rename_i h1; intro h2; exact absurd h2 h1
    split
    · split
      · rename_i h1; intro h2; exact absurd h2 h1
      · exact applyV_may _ _ _
    · exact applyV_may _ _ _
theorem evalS_may {l : List Term} {root : Int} {env : List Bind} : (evalS l root env).2 = 0 → mayV (evalS l root env).1 = true := by
  unfold evalS
  split
  · rename_i h; exact evalW_may _ _ (mayB_Tr h)
  · intro h; exact absurd h (by decide)
/-! a subterm put as a literal -/
def litT (v : Val) : Term := if v.k = 1 then numT v.n else if v.k = 2 then ⟨2, [], v.n, [], -1, -1⟩ else ⟨3, [], 0, v.s, -1, -1⟩
theorem lit_leaf {v : Val} (hm : mayV v = true) (hk : v.k = 1 ∨ v.k = 2 ∨ v.k = 3) : LeafT (litT v) := by
  unfold litT
  rcases hk with h | h | h
  · rw [if_pos h]; exact ⟨rfl, by simp [fieldsB, numT], rfl, rfl⟩
  · rw [if_neg (by omega), if_pos h]
    unfold mayV at hm; simp [h] at hm
    exact ⟨rfl, by simp [fieldsB]; exact hm.1, rfl, rfl⟩
  · rw [if_neg (by omega), if_neg (by omega)]
    unfold mayV at hm; simp [h] at hm
    exact ⟨rfl, by simp [fieldsB]; omega, rfl, rfl⟩
theorem lit_val {v : Val} {env : List Bind} (hm : mayV v = true) (hk : v.k = 1 ∨ v.k = 2 ∨ v.k = 3) : leafV (litT v) env = (v, 0) := by
  obtain ⟨k, n, s, l⟩ := v
  simp only at hk
  unfold litT leafV
  rcases hk with rfl | rfl | rfl
  · simp [numT]; simp [mayV] at hm; exact ⟨hm.1, hm.2⟩
  · simp; simp [mayV] at hm; exact ⟨hm.2.1, hm.2.2⟩
  · simp; simp [mayV] at hm; exact ⟨hm.2.1.symm, hm.2.2⟩
theorem evalS_at {l : List Term} {env : List Bind} {i : Nat} (h : mayB l i = true) : evalS l i env = evalW l env (i + 1) i := by
  unfold evalS; rw [if_pos h]; rfl
theorem inside {l : List Term} {root : Int} {env : List Bind} {d : List Int} {k : Nat} (h : mayB l root = true) (hd : treeS l root = some d) (hk : 0 < d[k]?.getD 0) :
    (¬ (evalS l k env).2 = 0 → ¬ (evalS l root env).2 = 0) ∧
    ((evalS l k env).2 = 0 → (evalS l k env).1.k = 1 ∨ (evalS l k env).1.k = 2 ∨ (evalS l k env).1.k = 3 →
      mayB (l.set k (litT (evalS l k env).1)) root = true ∧ evalS (l.set k (litT (evalS l k env).1)) root env = evalS l root env) := by
  obtain ⟨h1, p, hp, hn⟩ := mayB_iff.1 h
  have hkp := tree_in hd hp hk
  have hmk := mayB_sub h hp hkp
  have e := evalS_at (env := env) hmk
  refine ⟨fun he => ?_, fun h0 hkd => ?_⟩
  · rw [e] at he
    have := err_in _ _ _ _ hp k hkp he root rfl
    unfold evalS; rw [if_pos h]; exact this
  · have hmv := evalS_may h0
    have hval : (evalS l k env) = ((evalS l k env).1, 0) := by rw [← h0]
    refine put_may (e1 := env) (fun i t ht => ?_) (by simp) h
    by_cases hik : i = k
    · subst hik
      have hlt := (List.getElem?_eq_some_iff.1 ht).1
      refine ⟨litT (evalS l i env).1, by simp [hlt], .inr ⟨lit_leaf hmv hkd, fun f q dd hq a ha => ?_⟩⟩
      rw [lit_val hmv hkd, ← hval, e]
      obtain ⟨_, pk, hpk, _⟩ := mayB_iff.1 hmk
      rw [evalW_fuel _ _ _ _ hq (i + 1) 1 pk (by simpa using hpk) a ha]
      have : a.toNat = ((i : Int)).toNat := by rw [ha]; simp
      simp only [evalW, this]
    · refine ⟨t, ?_, .inl ⟨rfl, fun _ => rfl⟩⟩
      rw [List.getElem?_set]; simp [Ne.symm hik, ht]
/-! a variable's number put in its place -/
def putN (name : Str) (n : Int) (t : Term) : Term := if t.kind = 0 ∧ t.name = name then numT n else t
theorem putN_R (l : List Term) (name : Str) (n : Int) (env : List Bind) (lv : Value) : PutR l (l.map (putN name n)) (⟨name, ⟨1, n, [], []⟩, lv⟩ :: env) env := by
  intro i t ht
  refine ⟨putN name n t, by simp [ht], ?_⟩
  unfold putN
  by_cases h : t.kind = 0 ∧ t.name = name
  · right
    rw [if_pos h]
    refine ⟨⟨rfl, by simp [fieldsB, numT], rfl, rfl⟩, fun f q d hq a ha => ?_⟩
    cases f with
    | zero => simp [preL] at hq
    | succ f =>
      have hx : l[a.toNat]? = some t := by rw [ha]; exact ht
      rw [evalW_leaf hx (by rw [h.1]; decide), leafV_var (by omega) (by omega) (by omega) (by omega) (by omega), h.2]
      exact holdV_hit (b := ⟨name, ⟨1, n, [], []⟩, lv⟩) (may_int n)
  · left
    rw [if_neg h]
    refine ⟨rfl, fun ho => ?_⟩
    unfold leafV
    (repeat' split) <;> try rfl
    rename_i h1 h2 h3 h4 h5
    have hk : t.kind = 0 := by
      rcases kind_cases (by omega : 0 ≤ operandsI t.kind) with e | e | e | e | e | e | e | e | e | e | e | e | e | e | e | e | e | e | e | e <;> first | exact e | omega | (rw [e] at ho; exact absurd ho (by decide))
    have hne : ¬ name = t.name := fun e => h ⟨hk, e.symm⟩
    exact holdV_miss hne
theorem vars_in {l : List Term} : ∀ (f : Nat) (at_ : Int) (s : Str), s ∈ varsW l f at_ → ∃ t ∈ l, t.kind = 0 ∧ t.name = s
  | 0, _, _, h => by cases h
  | f + 1, at_, s, h => by
    unfold varsW at h
    split at h
    · cases h
    · split at h
      · cases h
      · rename_i t hx
        rcases List.mem_append.1 h with h | h
        · exact vars_in f _ s h
        rcases List.mem_append.1 h with h | h
        · exact vars_in f _ s h
        · split at h
          · rename_i hk
            exact ⟨t, List.mem_of_getElem? hx, hk, (List.mem_singleton.1 h).symm⟩
          · cases h
theorem putN_vars (l : List Term) (name : Str) (n root : Int) : hasS (varsS (l.map (putN name n)) root) name = false := by
  unfold hasS
  rw [decide_eq_false_iff_not]
  intro h
  by_cases hm : mayB (l.map (putN name n)) root = true
  · obtain ⟨t, ht, hk, hn⟩ := vars_in _ _ _ ((mem_varsS hm).1 h)
    obtain ⟨u, hu, rfl⟩ := List.mem_map.1 ht
    unfold putN at hk hn
    by_cases hc : u.kind = 0 ∧ u.name = name
    · rw [if_pos hc] at hk; exact absurd hk (show ¬ (1 : Int) = 0 by decide)
    · rw [if_neg hc] at hk hn; exact hc ⟨hk, hn⟩
  · rw [varsS_none hm] at h; cases h
theorem puts {l : List Term} {root : Int} (name : Str) (n : Int) (env : List Bind) (lv : Value) (h : mayB l root = true) :
    mayB (l.map (putN name n)) root = true ∧ evalS (l.map (putN name n)) root env = evalS l root (⟨name, ⟨1, n, [], []⟩, lv⟩ :: env) ∧ hasS (varsS (l.map (putN name n)) root) name = false :=
  ⟨(put_may (putN_R l name n env lv) (by simp) h).1, (put_may (putN_R l name n env lv) (by simp) h).2, putN_vars l name n root⟩
/-! other binds -/
def oneV (env : List Bind) (s : Str) : Bool := env.any fun b => decide (b.name = s)
def keepB (l : List Str) (more : List Bind) : List Bind := more.filter fun b => !hasS l b.name
def junkV (b : Bind) : Bind := ⟨b.name, ⟨77, 0, [], []⟩, .slice none 0 0⟩
theorem keepB_snoc {l : List Str} {a : List Bind} {t : Bind} : keepB l (a ++ [t]) = if hasS l t.name then keepB l a else keepB l a ++ [t] := by
  unfold keepB
  rw [List.filter_append]
  cases hb : hasS l t.name <;> simp [hb]
theorem keepB_len (l : List Str) (a : List Bind) : (keepB l a).length ≤ a.length := List.length_filter_le _ _
theorem hold_none {env : List Bind} {s : Str} (h : oneV env s = false) : holdV env s = (v0, 401) := by
  induction env with
  | nil => rfl
  | cons t r ih =>
    simp only [oneV, List.any_cons, Bool.or_eq_false_iff, decide_eq_false_iff_not] at h
    rw [holdV_miss h.1]; exact ih h.2
theorem hold_app {a b : List Bind} {s : Str} (h : oneV a s = true) : holdV (a ++ b) s = holdV a s := by
  induction a with
  | nil => simp [oneV] at h
  | cons t r ih =>
    simp only [List.cons_append, holdV]
    by_cases ht : t.name = s
    · rw [if_pos ht, if_pos ht]
    · rw [if_neg ht, if_neg ht]
      exact ih (by simpa [oneV, ht] using h)
theorem hold_past {a b : List Bind} {s : Str} (h : oneV a s = false) : holdV (a ++ b) s = holdV b s := by
  induction a with
  | nil => rfl
  | cons t r ih =>
    simp only [oneV, List.any_cons, Bool.or_eq_false_iff, decide_eq_false_iff_not] at h
    simp only [List.cons_append]; rw [holdV_miss h.1]; exact ih h.2
theorem evalW_env {l : List Term} {env env' : List Bind} : ∀ (f : Nat) (at_ : Int), Tr l f at_ → (∀ s ∈ varsW l f at_, holdV env s = holdV env' s) → evalW l env f at_ = evalW l env' f at_
  | 0, _, h, _ => h.elim
  | f + 1, at_, h, hv => by
    obtain ⟨h0, t, hx, hop, _, hl, hl', hr, hr'⟩ := h
    rw [varsW_at (by omega) hx] at hv
    simp only [evalW, hx]
    by_cases ho : operandsI t.kind = 0
    · rw [if_pos ho, if_pos ho]
      unfold leafV
      (repeat' split) <;> try rfl
      rename_i h1 h2 h3 h4 h5
      have hk : t.kind = 0 := by
        rcases kind_cases hop with e | e | e | e | e | e | e | e | e | e | e | e | e | e | e | e | e | e | e | e <;> first | exact e | omega | (rw [e] at ho; exact absurd ho (by decide))
      exact hv t.name (by rw [if_pos hk]; simp)
    · rw [if_neg ho, if_neg ho, evalW_env f t.l (hl (by omega)) (fun s hs => hv s (by simp [hs]))]
      by_cases h2 : operandsI t.kind = 2
      · rw [evalW_env f t.r (hr (by omega)) (fun s hs => hv s (by simp [hs]))]
      · simp only [if_neg h2]
theorem others (l : List Term) (root : Int) (env more : List Bind) : evalS l root ((keepB (varsS l root) more ++ env) ++ env.map junkV) = evalS l root env := by
  unfold evalS
  by_cases hm : mayB l root = true
  · rw [if_pos hm, if_pos hm]
    refine evalW_env _ _ (mayB_Tr hm) (fun s hs => ?_)
    have hs' := (mem_varsS hm).2 hs
    have hkeep : oneV (keepB (varsS l root) more) s = false := by
      unfold oneV keepB
      rw [List.any_eq_false]
      intro t ht
      simp only [List.mem_filter, Bool.not_eq_true', hasS, decide_eq_false_iff_not] at ht
      simp only [decide_eq_true_eq]
      rintro rfl
      exact ht.2 hs'
    rw [List.append_assoc, hold_past hkeep]
    cases hb : oneV env s with
    | true => exact hold_app hb
    | false =>
      rw [hold_past hb, hold_none hb]
      refine hold_none ?_
      unfold oneV at *
      rw [List.any_map]
      exact hb
  · rw [if_neg hm, if_neg hm]
/-! terms that are appended -/
theorem more_R (l r : List Term) (e : List Bind) : PutR l (l ++ r) e e := fun i t ht => ⟨t, by rw [List.getElem?_append_left (List.getElem?_eq_some_iff.1 ht).1]; exact ht, .inl ⟨rfl, fun _ => rfl⟩⟩
theorem more_may {l r : List Term} {root : Int} {env : List Bind} (h : mayB l root = true) (hlen : ((l ++ r).length : Int) ≤ 160) : mayB (l ++ r) root = true ∧ evalS (l ++ r) root env = evalS l root env := by
  obtain ⟨h1, p, hp, hn⟩ := mayB_iff.1 h
  obtain ⟨p', e1', e2', e3⟩ := put_pre (more_R l r env) _ _ _ _ hp
  have hm : mayB (l ++ r) root = true := mayB_iff.2 ⟨⟨hlen, h1.2.1, by simp; omega⟩, p', e1', hn.sublist e2'⟩
  refine ⟨hm, ?_⟩
  unfold evalS
  rw [if_pos hm, if_pos h]
  exact e3 root rfl
theorem varsW_more {l r : List Term} : ∀ (f : Nat) (at_ : Int), Tr l f at_ → varsW (l ++ r) f at_ = varsW l f at_
  | 0, _, h => h.elim
  | f + 1, at_, h => by
    obtain ⟨h0, t, hx, hop, _, hl, hl', hr, hr'⟩ := h
    have hx' : (l ++ r)[at_.toNat]? = some t := by rw [List.getElem?_append_left (List.getElem?_eq_some_iff.1 hx).1]; exact hx
    rw [varsW_at (by omega) hx, varsW_at (by omega) hx']
    have e0 : varsW (l ++ r) f t.l = varsW l f t.l := by
      by_cases h1 : 1 ≤ operandsI t.kind
      · exact varsW_more f t.l (hl h1)
      · rw [varsW_neg (by have := hl' (by omega); omega), varsW_neg (by have := hl' (by omega); omega)]
    have e1 : varsW (l ++ r) f t.r = varsW l f t.r := by
      by_cases h1 : 2 ≤ operandsI t.kind
      · exact varsW_more f t.r (hr h1)
      · rw [varsW_neg (by have := hr' (by omega); omega), varsW_neg (by have := hr' (by omega); omega)]
    rw [e0, e1]
theorem varsS_more {l r : List Term} {root : Int} (h : mayB l root = true) (hlen : ((l ++ r).length : Int) ≤ 160) : varsS (l ++ r) root = varsS l root := by
  unfold varsS
  rw [if_pos (more_may (env := []) h hlen).1, if_pos h, varsW_more _ _ (mayB_Tr h)]
theorem twice_no {l : List Term} {root : Int} (h0 : 0 ≤ root) : mayB (l ++ [twoT 6 root root]) l.length = false := by
  cases hb : mayB (l ++ [twoT 6 root root]) l.length with
  | false => rfl
  | true =>
    exfalso
    obtain ⟨_, p, hp, hn⟩ := mayB_iff.1 hb
    simp only [Int.toNat_natCast] at hp
    obtain ⟨t, p0, q0, hx, hok, a0, a1, rfl⟩ := preL_some hp
    have ht : t = twoT 6 root root := by simpa using hx.symm
    subst ht
    have o : operandsI (twoT 6 root root).kind = 2 := rfl
    rw [if_neg (by omega)] at a0 a1
    have m0 : root.toNat ∈ p0 := preL_self a0
    have m1 : root.toNat ∈ q0 := preL_self a1
    have := (List.nodup_cons.1 hn).2
    exact (List.nodup_append.1 this).2.2 _ m0 _ m1 rfl
theorem deep_len {l : List Term} : ∀ (f at_ : Nat) (deep : Int) (p : List Nat), preL l f at_ deep = some p → 1 ≤ deep → preL l f at_ (deep + 1) = none → (25 : Int) - deep ≤ p.length := by
  intro f
  induction f with
  | zero => intro at_ deep p h; simp [preL] at h
  | succ f ih =>
    intro at_ deep p h hd hno
    obtain ⟨t, p0, q0, hx, hok, h0, h1, rfl⟩ := preL_some h
    have hle := okT_ops hok
    by_cases h24 : deep = 24
    · simp; omega
    · have hok' : okT t at_ (deep + 1) = true := okT_deep hok (by omega)
      by_cases c0 : operandsI t.kind < 1
      · exfalso
        rw [preL_mk (p0 := []) (q0 := []) hx hok' (by rw [if_pos c0]) (by rw [if_pos (by omega)])] at hno
        cases hno
      · rw [if_neg c0] at h0
        cases a0 : preL l f t.l.toNat (deep + 1 + 1) with
        | none =>
          have := ih _ _ _ h0 (by omega) a0
          simp; omega
        | some p0' =>
          by_cases c1 : operandsI t.kind < 2
          · exfalso
            rw [preL_mk (p0 := p0') (q0 := []) hx hok' (by rw [if_neg c0]; exact a0) (by rw [if_pos c1])] at hno
            cases hno
          · rw [if_neg c1] at h1
            cases a1 : preL l f t.r.toNat (deep + 1 + 1) with
            | none =>
              have := ih _ _ _ h1 (by omega) a1
              simp; omega
            | some q0' =>
              exfalso
              rw [preL_mk (p0 := p0') (q0 := q0') hx hok' (by rw [if_neg c0]; exact a0) (by rw [if_neg c1]; exact a1)] at hno
              cases hno
theorem nodup_len {n : Nat} : ∀ {p : List Nat}, p.Nodup → (∀ i ∈ p, i < n) → p.length ≤ n := by
  induction n with
  | zero => intro p hn h; cases p with
    | nil => simp
    | cons x p => exact absurd (h x (by simp)) (by omega)
  | succ n ih =>
    intro p hn h
    have h1 := ih (p := p.erase n) (hn.erase n) (fun i hi => by
      have := h i (List.mem_of_mem_erase hi)
      have hne : i ≠ n := fun e => by subst e; exact (hn.not_mem_erase) hi
      omega)
    rw [List.length_erase] at h1
    split at h1 <;> omega
theorem once_may {l : List Term} {root : Int} (h : mayB l root = true) (hlen : (l.length : Int) ≤ 100) (h24 : (l.length : Int) < 24) : mayB (l ++ [⟨16, [], 0, [], root, -1⟩]) l.length = true := by
  obtain ⟨h1, p, hp, hn⟩ := mayB_iff.1 h
  have hall : ∀ i ∈ p, i < l.length := fun i hi => by
    have := preL_le _ _ _ _ hp i hi
    omega
  cases h2 : preL l (root.toNat + 1) root.toNat (1 + 1) with
  | none =>
    exfalso
    have a := deep_len _ _ _ _ hp (by omega) h2
    have b := nodup_len hn hall
    omega
  | some q =>
    have hqp : q = p := by
      have := preL_up _ _ _ 1 _ h2 (by omega)
      rw [hp] at this; exact (Option.some.inj this).symm
    subst hqp
    obtain ⟨p', e1, e2, _⟩ := put_pre (more_R l [⟨16, [], 0, [], root, -1⟩] []) _ _ _ _ h2
    have hsub : ∀ i ∈ p', i < l.length := fun i hi => hall i (e2.subset hi)
    refine mayB_iff.2 ⟨⟨by simp; omega, by omega, by simp; omega⟩, l.length :: (p' ++ []), ?_, ?_⟩
    · simp only [Int.toNat_natCast]
      refine preL_mk (t := ⟨16, [], 0, [], root, -1⟩) (by simp) (okT_of (show 0 ≤ operandsI 16 by decide) rfl (by decide) (fun h => absurd h (show ¬ operandsI 16 < 1 by decide)) (fun _ => ⟨h1.2.1, by show root < (l.length : Int); exact h1.2.2⟩) (fun _ => rfl) (fun h => absurd (show operandsI 16 < 2 by decide) h)) ?_ ?_
      · rw [if_neg (show ¬ operandsI 16 < 1 by decide)]
        exact preL_any _ _ _ _ e1 _ (by omega)
      · rw [if_pos (show operandsI 16 < 2 by decide)]
    · rw [List.append_nil]
      exact List.nodup_cons.2 ⟨fun hm => absurd (hsub _ hm) (by omega), hn.sublist e2⟩
theorem sameNames_next {a b : List Str} {k : Int} {x y : Str} (hk : 0 ≤ k) (h : a.take k.toNat = b.take k.toNat) (hx : a[k.toNat]? = some x) (hy : b[k.toNat]? = some y) (e : x = y) : a.take (k + 1).toNat = b.take (k + 1).toNat := by
  rw [take_snoc hk hx, take_snoc hk hy, h, e]
theorem sameNames_end {a b : List Str} {k : Int} (h : a.take k.toNat = b.take k.toNat) (hl : (a.length : Int) = b.length) (hk : ¬ k < a.length) (h0 : 0 ≤ k) : a = b := by
  rw [List.take_of_length_le (by omega), List.take_of_length_le (by omega)] at h; exact h
theorem sameNames_ne {a b : List Str} {k : Int} {x y : Str} (hx : a[k.toNat]? = some x) (hy : b[k.toNat]? = some y) (h : ¬ x = y) : ¬ a = b := by
  rintro rfl
  rw [hx] at hy; exact h (Option.some.inj hy)
/-! a row of binds put together -/
theorem others_env {H : Hp} {env more : List Bind} {V : List Str} (he : EnvOk H env) (hm : EnvOk H more) (k i : Nat) : EnvOk H ((keepB V (more.take k) ++ env) ++ (env.take i).map junkV) := by
  intro b hb
  rcases List.mem_append.1 hb with hb | hb
  · rcases List.mem_append.1 hb with hb | hb
    · exact hm b (List.mem_of_mem_take (List.mem_filter.1 hb).1)
    · exact he b hb
  · obtain ⟨c, _, rfl⟩ := List.mem_map.1 hb
    exact RdSl.nil
theorem others_len {env more : List Bind} {V : List Str} (he : ∀ b ∈ env, b.v.l.length ≤ 100000) (hm : ∀ b ∈ more, b.v.l.length ≤ 100000) (k i : Nat) : ∀ b ∈ ((keepB V (more.take k) ++ env) ++ (env.take i).map junkV), b.v.l.length ≤ 100000 := by
  intro b hb
  rcases List.mem_append.1 hb with hb | hb
  · rcases List.mem_append.1 hb with hb | hb
    · exact hm b (List.mem_of_mem_take (List.mem_filter.1 hb).1)
    · exact he b hb
  · obtain ⟨c, _, rfl⟩ := List.mem_map.1 hb
    simp [junkV]
/-! the places of a tree, as bools -/
def boolC (b : Bool) : List Value := [.bool b]
def posB (x : Int) : Bool := decide (0 < x)
def treeQ (d : List Int) (k n : Nat) : List Bool := (d.take k).map posB ++ List.replicate (n - k) false
theorem treeQ_zero (d : List Int) (n : Nat) : treeQ d (0 : Int).toNat n = List.replicate n false := by simp [treeQ]
theorem treeQ_set {d : List Int} {k : Int} {n : Nat} {x : Int} (h0 : 0 ≤ k) (hk : k < n) (hx : d[k.toNat]? = some x) (hd : d.length = n) :
    ((treeQ d k.toNat n).map Value.bool).set (0 + k.toNat * 1) (.bool (decide (0 < x))) = (treeQ d (k + 1).toNat n).map Value.bool := by
  have hlt : k.toNat < d.length := by omega
  rw [bools_set]
  congr 1
  unfold treeQ
  rw [take_snoc h0 hx, List.map_append, List.set_append_right (h := by simp; omega)]
  have e : k.toNat - (List.map posB (List.take k.toNat d)).length = 0 := by simp; omega
  rw [e, show n - k.toNat = (n - (k + 1).toNat) + 1 by omega, List.replicate_succ, List.set_cons_zero, List.append_assoc]
  rfl
theorem treeQ_all {d : List Int} {k : Int} {n : Nat} (h : ¬ k < n) (hd : d.length = n) (h0 : 0 ≤ k) : treeQ d k.toNat n = d.map posB := by
  unfold treeQ
  rw [List.take_of_length_le (by omega), show n - k.toNat = 0 by omega]
  simp
theorem treeQ_len {d : List Int} {k n : Nat} (h : k ≤ n) (hd : d.length = n) : (treeQ d k n).length = n := by
  unfold treeQ; simp; omega
theorem RdSl.bools {H : Hp} {b cap : Nat} {d : List Bool} (h : ∀ o v, (d.map Value.bool)[o]? = some v → H b o = some v) (hm : d.length ≤ 9223372036854775807) (hcap : d.length ≤ cap := by first | exact Nat.le_refl _ | omega | (simp; done) | (simp; omega)) : RdSl H 1 boolC (.slice (some ⟨b, 0, none⟩) d.length cap) d := by
  refine ⟨⟨_, _, rfl⟩, hm, fun _ => ⟨_, rfl⟩, fun i x hx j u hu => ?_, fun a n c e => by injection e with _ _ e; omega⟩
  cases j with
  | zero =>
    simp only [boolC, List.getElem?_cons_zero, Option.some.injEq] at hu
    subst hu
    refine h _ _ ?_
    simp [off, hx]
  | succ j => simp [boolC] at hu
def TreeB (r : Option (List Int)) (n : Nat) (v : Value) (H' : Hp) : Prop := match r with
  | none => v = .tuple #[.slice none 0 0, .bool false]
  | some d => ∃ sv, v = .tuple #[sv, .bool true] ∧ RdSl H' 1 boolC sv (d.map posB) ∧ d.length = n
theorem pos_at {d : List Int} {k : Nat} {b : Bool} (h : (d.map posB)[k]? = some b) (hb : b = true) : 0 < d[k]?.getD 0 := by
  rw [List.getElem?_map] at h
  cases hx : d[k]? with
  | none => rw [hx] at h; cases h
  | some x =>
    rw [hx] at h
    have : posB x = b := by simpa using h
    rw [hb] at this
    simpa [posB] using this
/-! an element of a slice of one's own is set -/
theorem OwnSl.open_ {α : Type} {k : Nat} {enc : α → List Value} {a : Option Addr} {n c : Nat} {xs : List α} {ob : Blks} (h : OwnSl k enc (.slice a n c) xs ob) (hx : xs ≠ []) :
    ∃ b cs, a = some ⟨b, 0, none⟩ ∧ ob = [(b, cs)] ∧ cs.length = c * k ∧ cs.take (xs.length * k) = xs.flatMap enc ∧ xs.length ≤ c ∧ c ≤ 9223372036854775807 ∧ n = xs.length := by
  rcases h with ⟨_, e, _⟩ | ⟨b, cap, cs, e, h1, h2, h3, h4, h5⟩
  · exact absurd e hx
  · injection e with e1 e2 e3
    subst e3
    exact ⟨b, cs, e1, h1, h2, h3, h4, h5, e2⟩
theorem flat_set {α : Type} {enc : α → List Value} {k : Nat} (hk : ∀ x, (enc x).length = k) : ∀ (xs : List α) (i : Nat) (t : α), i < xs.length → setCells (xs.flatMap enc) (i * k) (enc t) = (xs.set i t).flatMap enc
  | [], i, t, h => by simp at h
  | x :: xs, 0, t, _ => by
    rw [setCells_eq _ _ _ (by simp [hk])]
    simp [hk]
  | x :: xs, i + 1, t, h => by
    have hl := flat_len (l := xs) (fun y _ => hk y)
    have hi : i < xs.length := by simpa using h
    have hle : i * k + k ≤ xs.length * k := by rw [← Nat.succ_mul]; exact Nat.mul_le_mul_right _ hi
    have ih := flat_set hk xs i t hi
    rw [setCells_eq _ _ _ (by rw [hk, hl]; omega)] at ih
    rw [setCells_eq _ _ _ (by simp [hk, hl, Nat.succ_mul]; omega)]
    simp only [List.flatMap_cons, List.set_cons_succ]
    rw [← ih, show (i + 1) * k = (enc x).length + i * k by rw [hk, Nat.succ_mul]; omega, List.take_append, List.drop_append]
    have e1 : List.drop (k + i * k + k) (enc x) = [] := List.drop_eq_nil_of_le (by rw [hk]; omega)
    have e2 : List.take (k + i * k) (enc x) = enc x := List.take_of_length_le (by rw [hk]; omega)
    simp [hk, e1, e2]
    rw [Nat.add_comm k (i * k)]
theorem OwnSl.set {α : Type} {k : Nat} {enc : α → List Value} [hc : Cells k enc] {b c : Nat} {cs : List Value} {xs : List α} {i : Nat} {t : α} (hcl : cs.length = c * k) (htk : cs.take (xs.length * k) = xs.flatMap enc) (hle : xs.length ≤ c) (hcm : c ≤ 9223372036854775807) (hi : i < xs.length) :
    OwnSl k enc (.slice (some ⟨b, 0, none⟩) xs.length c) (xs.set i t) [(b, setCells cs (i * k) (enc t))] := by
  have h1 : i * k + (enc t).length ≤ cs.length := by
    rw [hc.len, hcl, ← Nat.succ_mul]; exact Nat.mul_le_mul_right _ (by omega)
  have h2 : i * k + k ≤ xs.length * k := by rw [← Nat.succ_mul]; exact Nat.mul_le_mul_right _ (by omega)
  have h3 : xs.length * k ≤ cs.length := by rw [hcl]; exact Nat.mul_le_mul_right _ hle
  refine .inr ⟨b, c, _, by rw [List.length_set], rfl, ?_, ?_, by rw [List.length_set]; exact hle, hcm⟩
  · rw [setCells_eq _ _ _ h1]; simp [hc.len] at h1 ⊢; omega
  · rw [List.length_set, ← flat_set (fun x => hc.len x) xs i t hi, ← htk]
    rw [setCells_eq _ _ _ h1, setCells_eq _ _ _ (by rw [hc.len, List.length_take]; omega)]
    apply List.ext_getElem?
    intro j
    have hl : (enc t).length = k := hc.len t
    simp only [List.getElem?_append, List.getElem?_take, List.getElem?_drop, List.length_take, hl]
    by_cases a : j < xs.length * k
    · by_cases b' : j < i * k
      · simp [a, b', show j < min (i * k) cs.length by omega, show j < min (i * k) (min (xs.length * k) cs.length) by omega]
      · simp only [a, if_true, show ¬ j < min (i * k) cs.length by omega, show ¬ j < min (i * k) (min (xs.length * k) cs.length) by omega, if_false, b']
        rw [show min (i * k) cs.length = i * k by omega, show min (i * k) (min (xs.length * k) cs.length) = i * k by omega]
        by_cases c' : j - i * k < k
        · simp [c']
        · simp only [c', if_false, show i * k + k + (j - i * k - k) < xs.length * k by omega, if_true]
    · simp only [a, if_false]
      rw [show min (i * k) (min (xs.length * k) cs.length) = i * k by omega]
      simp [show ¬ j < i * k by omega, show ¬ j - i * k < k by omega, show ¬ (i * k + k + (j - i * k - k)) < xs.length * k by omega]
theorem put_fits {cs : List Value} {n c k : Nat} {t : Term} (hcl : cs.length = c * 6) (hle : n ≤ c) (hk : k < n) : 0 + k * 6 + (Value.agg t.cells.toArray).cells.toList.length ≤ cs.length := by
  show 0 + k * 6 + 6 ≤ _
  omega
theorem set_names {l : List Term} {k : Nat} {w : Term} (h : ∀ t ∈ l, t.name.length ≤ 9223372036854775807) (hw : w.name.length ≤ 9223372036854775807) : ∀ t ∈ ([] ++ l).set k w, t.name.length ≤ 9223372036854775807 := by
  intro t ht
  rcases List.mem_or_eq_of_mem_set ht with h1 | rfl
  · exact h t (by simpa using h1)
  · exact hw
theorem snoc_names {l : List Term} {w : Term} (h : ∀ t ∈ l, t.name.length ≤ 9223372036854775807) (hw : w.name.length ≤ 9223372036854775807) : ∀ t ∈ ([] ++ l) ++ [w], t.name.length ≤ 9223372036854775807 := by
  intro t ht
  rcases List.mem_append.1 ht with h1 | h1
  · exact h t (by simpa using h1)
  · rw [List.mem_singleton.1 h1]; exact hw
theorem putN_names {l : List Term} (h : ∀ t ∈ l, t.name.length ≤ 9223372036854775807) (name : Str) (n : Int) (k : Nat) : ∀ t ∈ (l.take k).map (putN name n), t.name.length ≤ 9223372036854775807 := by
  intro t ht
  obtain ⟨u, hu, rfl⟩ := List.mem_map.1 ht
  unfold putN
  split
  · simp [numT]
  · exact h u (List.mem_of_mem_take hu)
theorem putN_env {H : Hp} {env : List Bind} {name : Str} {n : Int} (h : EnvOk H env) : EnvOk H (⟨name, ⟨1, n, [], []⟩, .slice none 0 0⟩ :: env) := by
  intro b hb
  rcases List.mem_cons.1 hb with rfl | hb
  · exact RdSl.nil
  · exact h b hb
theorem putN_len {env : List Bind} {name : Str} {n : Int} (h : ∀ b ∈ env, b.v.l.length ≤ 100000) : ∀ b ∈ ((⟨name, ⟨1, n, [], []⟩, .slice none 0 0⟩ : Bind) :: env), b.v.l.length ≤ 100000 := by
  intro b hb
  rcases List.mem_cons.1 hb with rfl | hb
  · simp
  · exact h b hb
end Go.Sx

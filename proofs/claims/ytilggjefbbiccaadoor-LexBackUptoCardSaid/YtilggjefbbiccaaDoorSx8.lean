import Derived.Test.YtilggjefbbiccaaDoorSx7
set_option linter.unusedSimpArgs false
set_option linter.unusedVariables false
namespace Go.Sx
open Go

/-! ## regions that draw their order and write: a walk in one order serves the others -/

/-- x stands before y -/
def Bef (x y : Nat) : List Nat → Prop
  | [] => False
  | z :: l => (z = x ∧ y ∈ l) ∨ Bef x y l

theorem Bef.mem {x y : Nat} : ∀ {l : List Nat}, Bef x y l → x ∈ l ∧ y ∈ l
  | [], h => h.elim
  | z :: l, h => by
    rcases h with ⟨rfl, h⟩ | h
    · exact ⟨by simp, List.mem_cons_of_mem _ h⟩
    · exact ⟨List.mem_cons_of_mem _ h.mem.1, List.mem_cons_of_mem _ h.mem.2⟩
theorem Bef.trans {x y z : Nat} : ∀ {l : List Nat}, l.Nodup → Bef x y l → Bef y z l → Bef x z l
  | [], _, h, _ => h.elim
  | u :: l, hn, h, k => by
    rw [List.nodup_cons] at hn
    rcases h with ⟨rfl, h⟩ | h
    · rcases k with ⟨rfl, k⟩ | k
      · exact absurd h hn.1
      · exact .inl ⟨rfl, k.mem.2⟩
    · rcases k with ⟨rfl, k⟩ | k
      · exact absurd h.mem.2 hn.1
      · exact .inr (h.trans hn.2 k)
theorem Bef.total {x y : Nat} (hne : x ≠ y) : ∀ {l : List Nat}, x ∈ l → y ∈ l → Bef x y l ∨ Bef y x l
  | [], h, _ => by simp at h
  | u :: l, hx, hy => by
    rcases List.mem_cons.1 hx with rfl | hx
    · rcases List.mem_cons.1 hy with rfl | hy
      · exact absurd rfl hne
      · exact .inl (.inl ⟨rfl, hy⟩)
    · rcases List.mem_cons.1 hy with rfl | hy
      · exact .inr (.inl ⟨rfl, by assumption⟩)
      · exact (Bef.total hne hx hy).imp .inr .inr
theorem Bef.append_left {x y : Nat} {l : List Nat} (h : Bef x y l) (k : List Nat) : Bef x y (l ++ k) := by
  induction l with
  | nil => exact h.elim
  | cons z l ih =>
    rcases h with ⟨rfl, h⟩ | h
    · exact .inl ⟨rfl, by simp [h]⟩
    · exact .inr (ih h)
theorem Bef.snoc {x y : Nat} : ∀ {l : List Nat}, x ∈ l → Bef x y (l ++ [y])
  | [], h => by simp at h
  | z :: l, h => by
    rcases List.mem_cons.1 h with rfl | h
    · exact .inl ⟨rfl, by simp⟩
    · exact .inr (Bef.snoc h)
theorem not_bef_head {x i : Nat} {l : List Nat} (hn : (i :: l).Nodup) (hx : x ≠ i) : ¬ Bef x i (i :: l) := by
  rw [List.nodup_cons] at hn
  rintro (⟨rfl, h⟩ | h)
  · exact hn.1 h
  · exact hn.1 h.mem.2

/-- an order that the edges let, and the pairs X besides: (i, p): i comes behind p -/
structure Lin (ops : Array Oper) (X : List (Nat × Nat)) (s : List Nat) : Prop where
  nd : s.Nodup
  mem : ∀ i, i ∈ s ↔ i < ops.size
  edge : ∀ i o, ops[i]? = some o → ∀ e ∈ o.after, Region.binds .any e = true → Bef e.on i s
  ext : ∀ p ∈ X, Bef p.2 p.1 s

/-- each edge leads back -/
def lexV (ops : List Oper) : Bool := (ops.zipIdx).all fun p => p.1.after.toList.all fun e => !Region.binds .any e || Nat.blt e.on p.2

def reachB (ops : List Oper) (X : List (Nat × Nat)) (p : Nat) : Nat → Nat → Bool
  | 0, _ => false
  | f + 1, i => (match nthL ops i with
      | some o => o.after.toList.any fun e => Region.binds .any e && (Nat.beq e.on p || reachB ops X p f e.on)
      | none => false) || X.any fun x => Nat.beq x.1 i && (Nat.beq x.2 p || reachB ops X p f x.2)

theorem reachB_bef {ops : List Oper} {X : List (Nat × Nat)} {p : Nat} {s : List Nat} (hl : Lin ops.toArray X s) : ∀ f i, reachB ops X p f i = true → Bef p i s
  | 0, _, h => by simp [reachB] at h
  | f + 1, i, h => by
    simp only [reachB, Bool.or_eq_true] at h
    rcases h with h | h
    · split at h
      · rename_i o ho
        rw [nthL_eq] at ho
        obtain ⟨e, he, hb⟩ := List.any_eq_true.1 h
        simp only [Bool.and_eq_true, Bool.or_eq_true] at hb
        have h1 := hl.edge i o (by simpa using ho) e (by simpa using he) hb.1
        rcases hb.2 with hb | hb
        · rw [← Nat.eq_of_beq_eq_true hb]; exact h1
        · exact (reachB_bef hl f _ hb).trans hl.nd h1
      · cases h
    · obtain ⟨x, hx, hb⟩ := List.any_eq_true.1 h
      simp only [Bool.and_eq_true, Bool.or_eq_true] at hb
      have h1 := hl.ext x hx
      rw [Nat.eq_of_beq_eq_true hb.1] at h1
      rcases hb.2 with hb | hb
      · rw [← Nat.eq_of_beq_eq_true hb]; exact h1
      · exact (reachB_bef hl f _ hb).trans hl.nd h1

theorem filt_lt {α : Type} {p q : α → Bool} (hpq : ∀ x, q x = true → p x = true) : ∀ {l : List α} {i : α}, i ∈ l → p i = true → q i = false → (l.filter q).length < (l.filter p).length
  | [], _, h, _, _ => by simp at h
  | x :: l, i, h, h1, h2 => by
    have hle : (l.filter q).length ≤ (l.filter p).length := by
      clear h h1 h2
      induction l with
      | nil => simp
      | cons y l ih =>
        cases hq : q y
        · cases hp : p y <;> simp [List.filter_cons, hq, hp] <;> omega
        · have := hpq y hq
          simp [List.filter_cons, hq, this]; exact ih
    rcases List.mem_cons.1 h with rfl | h
    · simp [List.filter_cons, h1, h2]; omega
    · have := filt_lt hpq h h1 h2
      cases hq : q x
      · cases hp : p x <;> simp [List.filter_cons, hq, hp] <;> omega
      · have := hpq x hq
        simp [List.filter_cons, hq, this]; omega

theorem lexV_spec {l : List Oper} (h : lexV l = true) : ∀ (i : Nat) (o : Oper), l.toArray[i]? = some o → ∀ e ∈ o.after, Region.binds .any e = true → e.on < i := by
  intro i o ho e he hb
  have h1 := List.all_eq_true.1 h (o, i) (by
    rw [List.mem_zipIdx_iff_getElem?]
    simpa using ho)
  have h2 := List.all_eq_true.1 h1 e (by simpa using he)
  simpa [Nat.blt_eq, hb] using h2

theorem lin_go {ops : Array Oper} (hv : ∀ (i : Nat) (o : Oper), ops[i]? = some o → ∀ e ∈ o.after, Region.binds .any e = true → e.on < i) : ∀ (fuel t : Nat) (listed : Array Bool) (acc : List Nat),
    listed.size = ops.size → acc.Nodup → (∀ i, i ∈ acc ↔ listed.getD i false = true) → (∀ i ∈ acc, i < ops.size) →
    (∀ i ∈ acc, ∀ o, ops[i]? = some o → ∀ e ∈ o.after, Region.binds .any e = true → Bef e.on i acc.reverse) →
    ((List.range ops.size).filter (fun i => !listed.getD i true)).length ≤ fuel → Lin ops [] (Region.linearise.go .any ops fuel t listed acc) := by
  intro fuel
  have fin : ∀ (listed : Array Bool) (acc : List Nat), listed.size = ops.size → acc.Nodup → (∀ i, i ∈ acc ↔ listed.getD i false = true) → (∀ i ∈ acc, i < ops.size) →
      (∀ i ∈ acc, ∀ o, ops[i]? = some o → ∀ e ∈ o.after, Region.binds .any e = true → Bef e.on i acc.reverse) → (∀ i, i < ops.size → listed.getD i true = true) → Lin ops [] acc.reverse := by
    intro listed acc hs hn hm hl he hall
    refine ⟨(List.reverse_perm acc).nodup_iff.2 hn, fun i => ?_, fun i o ho e hee hb => ?_, by simp⟩
    · rw [List.mem_reverse]
      refine ⟨hl i, fun hi => (hm i).2 ?_⟩
      have := hall i hi
      have hi' : i < listed.size := by omega
      simp [hi'] at this ⊢; exact this
    · have hi : i < ops.size := (Array.getElem?_eq_some_iff.1 ho).1
      refine he i ((hm i).2 ?_) o ho e hee hb
      have := hall i hi
      have hi' : i < listed.size := by omega
      simp [hi'] at this ⊢; exact this
  induction fuel with
  | zero =>
    intro t listed acc hs hn hm hl he hf
    simp only [Region.linearise.go]
    refine fin listed acc hs hn hm hl he (fun i hi => ?_)
    cases hg : listed.getD i true with
    | true => rfl
    | false =>
      have : i ∈ (List.range ops.size).filter (fun i => !listed.getD i true) := List.mem_filter.2 ⟨List.mem_range.2 hi, by rw [hg]; rfl⟩
      have := List.length_pos_of_mem this
      omega
  | succ fuel ih =>
    intro t listed acc hs hn hm hl he hf
    simp only [Region.linearise.go]
    change Lin ops [] (match (Region.ready .any ops listed)[t % (Region.ready .any ops listed).length]? with
      | some i => Region.linearise.go .any ops fuel (t / (Region.ready .any ops listed).length) (listed.setIfInBounds i true) (i :: acc)
      | none => acc.reverse)
    cases hi : (Region.ready .any ops listed)[t % (Region.ready .any ops listed).length]? with
    | none =>
      have hnil : Region.ready .any ops listed = [] := by
        cases hr : Region.ready .any ops listed with
        | nil => rfl
        | cons x xs =>
          rw [hr] at hi
          have hlt : t % (x :: xs).length < (x :: xs).length := Nat.mod_lt _ (by simp)
          rw [List.getElem?_eq_none_iff] at hi
          omega
      refine fin listed acc hs hn hm hl he ?_
      -- the least that is not listed would be ready
      have key : ∀ m i, i < m → i < ops.size → listed.getD i true = true := by
        intro m
        induction m with
        | zero => intro i h; omega
        | succ m ihm =>
          intro i him hi
          cases hg : listed.getD i true with
          | true => rfl
          | false =>
            exfalso
            have hr : i ∈ Region.ready .any ops listed := by
              refine mem_ready.2 ⟨hg, ops[i], by simp [hi], fun e hee hb => ?_⟩
              have hlt := hv i ops[i] (by simp [hi]) e hee hb
              have := ihm e.on (by omega) (by omega)
              have hi' : e.on < listed.size := by omega
              simp [hi'] at this ⊢; exact this
            rw [hnil] at hr; cases hr
      exact fun i hi => key (i + 1) i (by omega) hi
    | some i =>
      have hmem := List.mem_of_getElem? hi
      obtain ⟨hg, o, ho, hed⟩ := mem_ready.1 hmem
      have hi' : i < ops.size := (Array.getElem?_eq_some_iff.1 ho).1
      have his : i < listed.size := by omega
      have hni : i ∉ acc := by
        intro h
        have := (hm i).1 h
        simp [his] at this hg
        rw [this] at hg; cases hg
      refine ih _ _ _ (by simp [hs]) (List.nodup_cons.2 ⟨hni, hn⟩) (fun j => ?_) (fun j hj => ?_) (fun j hj oj hoj e hee hb => ?_) ?_
      · rw [List.mem_cons]
        by_cases hij : i = j
        · subst hij; simp [his]
        · rw [getD_set_ne false hij]
          constructor
          · rintro (rfl | h)
            · exact absurd rfl hij
            · exact (hm j).1 h
          · intro h; exact .inr ((hm j).2 h)
      · rcases List.mem_cons.1 hj with rfl | hj
        · exact hi'
        · exact hl j hj
      · rw [List.reverse_cons]
        rcases List.mem_cons.1 hj with rfl | hj
        · rw [ho] at hoj
          obtain rfl := Option.some.inj hoj
          exact Bef.snoc (by rw [List.mem_reverse]; exact (hm _).2 (hed e hee hb))
        · exact (he j hj oj hoj e hee hb).append_left _
      · have : ((List.range ops.size).filter (fun k => !(listed.setIfInBounds i true).getD k true)).length < ((List.range ops.size).filter (fun k => !listed.getD k true)).length := by
          refine filt_lt (i := i) (fun k hk => ?_) (List.mem_range.2 hi') (by rw [hg]; rfl) (by simp [his])
          by_cases hik : i = k
          · subst hik; simp [his] at hk
          · rwa [getD_set_ne true hik] at hk
        omega

theorem lin_linearise {l : List Oper} (hv : lexV l = true) (t : Nat) : Lin l.toArray [] (Region.linearise .any l.toArray t) := by
  unfold Region.linearise
  refine lin_go (lexV_spec hv) _ _ _ _ (by simp) (by simp) (fun i => ?_) (by simp) (by simp) ?_
  · rcases Nat.lt_or_ge i l.toArray.size with h | h
    · simp at h; simp [h]
    · simp at h; simp [Array.getElem?_eq_none, h]
  · exact Nat.le_trans (List.length_filter_le _ _) (by simp)
end Go.Sx
